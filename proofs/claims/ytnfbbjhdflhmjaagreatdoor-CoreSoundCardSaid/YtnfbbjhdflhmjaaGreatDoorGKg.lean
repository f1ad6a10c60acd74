/- Chapter 19, the program's: the closure that recovers. -/
import Derived.Test.YtnfbbjhdflhmjaaGreatDoorGKf
set_option linter.unusedSimpArgs false
set_option linter.unusedVariables false
set_option maxRecDepth 10000
namespace Go.Al
theorem yT: ∀l:List UInt8,kC (l.map xG)=some l
 |[]=>rfl
 |c::l=>by
  have h:UInt8.ofNat ((c.toNat:Int).toNat)=c:=by simp
  simp only[List.map_cons,xG,kC,yU,h,Option.bind_some];rw[yT l];rfl
theorem eX.seal {cx:Kx} {W r w:Nat} {st:RS} {vo:AV} {H:Hp} {E:fW} {N:Nat} {Q:dQ} {c:Code} {fr:Fr} (hR:eX cx W r w st vo H)
  (h: ∀fr' H',(∀j,lJ (fr j)=true→fr' j=fr j)→H' r=some (.rows 7 [[.isl 5 (cx.funs.map CF.row), .osl 1 w st.vars.length, .str cx.inp, .int .i64 st.read, .isl 1 (st.out.map xG), .int .i64 st.ticks, .int .i64 cx.fuel]])→
   (∀b s l,b≠r→off vo b→(∀r∈l, ∀x∈r,lJ x=true)→H b=some (.rows s l)→H' b=some (.rows s l))→iG E N c Q fr' H'):iG E N c Q fr H:=by
 have h0:H r=some (.rows 7 [[AV.isl 5 (cx.funs.map CF.row), .osl 1 w st.vars.length, .str cx.inp, .int .i64 st.read]++vo::[.int .i64 st.ticks, .int .i64 cx.fuel]]):=hR.r;refine uR hR.o h0 (fun x hx=>?_) (fun x hx=>?_) (hR.o.offsz hR.r (by decide)) fun fr' H' h1 h2 h3=>h fr' H' (fun j hj=>h1 j (fH hj)) h2 fun b s l g1 g2 g3 g4=>h3 b s l g1 g2 (fun r hr x hx=>fH (g3 r hr x hx)) g4
 ·simp only[List.mem_cons,List.not_mem_nil,or_false]at hx
  rcases hx with rfl|rfl|rfl|rfl
  ·exact fH rfl
  ·intro s b n e
   cases e;exact hR.ov
  ·exact fH rfl
  exact fH rfl
 simp only[List.mem_cons,List.not_mem_nil,or_false]at hx;rcases hx with rfl|rfl<;>exact fH rfl
end Go.Al
namespace Go.Proofs.YtnfbbjhdflhmjaaGreatDoor
open Go.Al
def Ks (b6:Nat):Fr:=upd (fun _=> .undef) 6 (.ptr 3 b6 0 0)
noncomputable def Bg:Code:=Yx Tryz.f35.body
def Gc (e:Int) (out:dD) (t:Nat):AV:= .agg [.int .i64 e, .str out, .int .i64 t]
theorem A0 (b7 b6:Nat) (H:Hp) (R:nT→Hp→Prop) (e:Int) (out:dD) (t:Nat) (h6:H b6=some (.rows 3 [[.int .i64 e, .str out, .int .i64 t]])) (hR:R (.ret (Gc e out t)) rA):
  Ly cK 23 Bg [.ptr 1 b7 0 0, .ptr 3 b6 0 0] 5 [.cell 6 43] (Ks b6) R .nif H:=by
 unfold Ly Bg
 have hres:aL cK.P (Ks b6) H [.cell 6 43]=some (Gc e out t):=by
  simp only[aL,bH,Ks,h6,RR,seval];rfl
 refine aM ?_;refine aB fun _ y=>aA rfl ?_;simp only[Qe.eq_1,P6.eq_1,RR,seval];apply y;clear y;refine aH true rfl (fun _=>?_) (fun hc=>by cases hc);refine aA rfl ?_;simp only[RR,seval];exact⟨.inl trivial,_,hres,⟨_,rA,jW.drop (pN _),hR⟩⟩
theorem Zz {cx:Kx} {W r w:Nat} {st:RS} {vo:AV} (b7 b6:Nat) (H:Hp) (R:nT→Hp→Prop) (e:Int) (hR:eX cx W r w st vo H) (h7:H b7=some (.rows 1 [[.ptr 7 r 0 0]])) (o7:off vo b7) (h6:H b6=some (.rows 3 [[.int .i64 0, .str [], .int .i64 0]])) (hRR:R (.ret (Gc e st.out st.ticks)) rA):
  Ly cK 23 Bg [.ptr 1 b7 0 0, .ptr 3 b6 0 0] 5 [.cell 6 43] (Ks b6) R (Kz e) H:=by
 unfold Ly Bg Kz;have n67:b6≠b7:=fun c=>by rw[c,h7]at h6;cases h6
 have n6r:b6≠r:=fun c=>by rw[c,hR.r]at h6;cases h6
 have n7r:b7≠r:=fun c=>by rw[c,hR.r]at h7;cases h7
 refine eX.seal hR fun fr' H' hfr hr' hkp=>?_;have h7:=hkp b7 _ _ n7r o7 (fun r hr x hx=>by simp only[List.mem_singleton]at hr;subst hr;simp only[List.mem_singleton]at hx;subst hx;rfl) h7;have h6:=hkp b6 _ _ n6r (hR.o.offsz h6 (by decide)) (fun r hr x hx=>by simp only[List.mem_singleton]at hr;subst hr;simp only[List.mem_cons,List.not_mem_nil,or_false]at hx;rcases hx with rfl|rfl|rfl<;>rfl) h6;have f0:fr' 0= .ptr 1 b7 0 0:=hfr 0 rfl;have f1:fr' 1= .ptr 3 b6 0 0:=hfr 1 rfl;have f5:fr' 5= .ifc 78 (.agg [.int .i64 e]):=hfr 5 rfl;have hb:=yT st.out;have hb6:=h6;have hb7:=h7;have hr:=hr';clear h6 h7 hr' hkp hfr;have hC:= @oR;refine aM ?_;refine aB fun _ y=>aA rfl ?_;simp only[f5,Qe.eq_1,aq,RR,seval];apply y;clear y;refine aH false rfl (fun hc=>by cases hc) (fun _=>?_);refine aB fun _ y=>aA rfl ?_;simp only[f5,oR,aq,RR,seval];apply y;clear y;refine aH true rfl (fun _=>?_) (fun hc=>by cases hc);refine aB fun _ y=>aA rfl ?_;simp only[RR,seval];refine aP fun b3 hn3=>?_;have nb3_b6:b3≠b6:=fun e=>by rw[e]at hn3;simp only[hb6,seval,reduceCtorEq]at hn3
 have nb6_b3:b6≠b3:=fun e=>nb3_b6 e.symm;have nb3_b7:b3≠b7:=fun e=>by rw[e]at hn3;simp only[hb7,seval,reduceCtorEq]at hn3
 have nb7_b3:b7≠b3:=fun e=>nb3_b7 e.symm;have nb3_r:b3≠r:=fun e=>by rw[e]at hn3;simp only[hr,seval,reduceCtorEq]at hn3
 have nr_b3:r≠b3:=fun e=>nb3_r e.symm;simp only[RR,seval];apply y;clear y;refine bJ (fun x=>x≠b7∧x≠r) [(0,3),(1,1),(2,1),(3,3),(4,3),(5,1),(6,3),(7,1),(8,3),(9,3),(10,1),(11,3)] [(12,1)] dG (by kernel_rfl) rfl rfl ?_;simp only[cF,f0,f1,hb6,hb7,hr,nb6_b3,nb7_b3,nr_b3,aq,hb,RR,seval]
 try simp only[aL,bH,RR,seval]
 refine⟨.inl trivial,Gc e st.out st.ticks, ?_,⟨_,rA,jW.drop (pN _),hRR⟩⟩;simp only[Ks,RR,seval];rfl
end Go.Proofs.YtnfbbjhdflhmjaaGreatDoor
