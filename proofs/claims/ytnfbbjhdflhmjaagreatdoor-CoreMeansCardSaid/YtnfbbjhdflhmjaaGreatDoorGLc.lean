/- Chapter 19: how great a core is (the program's); how many gets there are (the law's). -/
import Derived.Test.YtnfbbjhdflhmjaaGreatDoorCx
import Derived.Test.YtnfbbjhdflhmjaaGreatDoorGOd
import Derived.Test.YtnfbbjhdflhmjaaGreatDoorMb
set_option linter.unusedSimpArgs false
set_option linter.unusedVariables false
set_option maxRecDepth 10000
namespace Go.Al
theorem Mj {l:List CE} {k:Nat} {e:CE} (h:l[k]?=some e):fU (l.take (k+1))=fU (l.take k)+(1+fU e.kids):=by
 induction l generalizing k with
 |nil=>simp at h
 |cons x l ih=>
  cases k with
  |zero=>
   simp only[List.getElem?_cons_zero,Option.some.injEq]at h;subst h;simp only[List.take_succ_cons,List.take_zero,fU,x.sz_eq];omega
  |succ k=>
   simp only[List.getElem?_cons_succ]at h;simp only[List.take_succ_cons,fU,ih h];omega
theorem Mi {l:List CS} {k:Nat} {e:CS} (h:l[k]?=some e):eZ (l.take (k+1))=eZ (l.take k)+(1+fU e.es+eZ e.thn+eZ e.els):=by
 induction l generalizing k with
 |nil=>simp at h
 |cons x l ih=>
  cases k with
  |zero=>
   simp only[List.getElem?_cons_zero,Option.some.injEq]at h;subst h;simp only[List.take_succ_cons,List.take_zero,eZ,x.sz_eq];omega
  |succ k=>
   simp only[List.getElem?_cons_succ]at h;simp only[List.take_succ_cons,eZ,ih h];omega
theorem Uj (l:List CE) (k:Nat):fU (l.take k)≤fU l:=by
 induction l generalizing k with
 |nil=>simp
 |cons x l ih=>cases k with
  |zero=>simp [fU]
  |succ k=>simp only[List.take_succ_cons,fU];have:=ih k;omega
theorem Ui (l:List CS) (k:Nat):eZ (l.take k)≤eZ l:=by
 induction l generalizing k with
 |nil=>simp
 |cons x l ih=>cases k with
  |zero=>simp [eZ]
  |succ k=>simp only[List.take_succ_cons,eZ];have:=ih k;omega
end Go.Al
namespace Go.Proofs.YtnfbbjhdflhmjaaGreatDoor
open Go.Al
theorem yZ (n:Nat): ∀l:List CE,fU l≤n→n≤1000000000→dD cN 61 [.isl 6 (l.map CE.row)] (.int .i64 (fU l:Nat)):=by
 induction n using Nat.strongRecOn with
 |_ n ih=>
  intro l hn hb;have hl:=Dp l;refine bD 21 [.tmp 2] Tryz.func61 rfl rfl rfl rfl ?_;refine aB fun _ y=>aA rfl ?_;simp only[RR,seval];apply y;clear y;refine aB fun _ y=>aA rfl ?_;simp only[aD,RR,seval];apply y;clear y;refine aH ?_;refine aB fun _ y=>aA rfl ?_;simp only[aD,RR,seval];apply y;clear y;refine bL fun F1 M1 hfr hH=>?_;have g2:=hfr 2;have g3:=hfr 3;have g8:=hfr 8;have g9:=hfr 9;have g10:=hfr 10
  try simp only[RR,seval]at g2 g3 g8 g9 g10
  have f2:=g2;clear g2;have f3:=g3;clear g3;have f8:=g8;clear g8;have f9:=g9;clear g9;have f10:=g10;clear g10;clear hfr hH;refine aI ?_;refine cP [2,8,9] (l.length) (fun k fr M=>fr 10= .int .i64 (k:Nat)∧ ∃x:Nat,fr 3= .int .i64 (x:Nat)∧x+k=l.length+fU (l.take k)) ⟨f10,l.length,f3,by simp [fU]⟩ ?_;rintro k F2 M2 hk0 ⟨fx,⟨x,f3,hx⟩⟩ agx K0 hK0;have f2:=(agx 2 rfl).trans f2;have f8:=(agx 8 rfl).trans f8;have f9:=(agx 9 rfl).trans f9;have f10:=fx;clear fx;have ag0:=bE.refl [2,8,9] F2;clear agx;refine aB fun _ y=>aA rfl ?_;simp only[f9,f10,RR,seval];apply y;clear y;refine aH ?_;refine aF _ rfl (fun hc=>?_) (fun hc=>?_)
  ·have hlt0:k<l.length:=by have:=aC hc;omega
   clear hc;have hg0:=aG hlt0;have hm:=Do (bJ hlt0);have hle:=Uj l (k+1);have ht:=Mj hg0;have hs:=(l[k]).sz_eq;have hkd:=ih (fU (l[k]).kids) (by omega) (l[k]).kids (aY _) (by omega);have hg:=D9 hg0;generalize l[k]=e at hg0 hm ht hs hkd hg;have z1:IntKind.wrap .i64 ((x:Int)+(fU e.kids:Nat))=((x+fU e.kids:Nat):Int):=by rw[aR _ (by omega)];omega
   refine aM ?_;try simp only[RR]
   refine aH ?_;refine aI ?_;refine aB fun _ y=>aA rfl ?_;simp only[f8,f10,hg,RR,seval];refine aO fun b5 hn5=>?_;simp only[RR,seval];apply y;clear y;refine aA rfl ?_;simp only[f3,RR,seval];refine aU (hkd) ?_;simp only[z1,RR,seval];refine aA rfl ?_;simp only[f10,RR,seval]
   try rw[aR _ (by omega)]
   refine hK0 _ _ hlt0 ⟨by first|rfl|(simp only[aJ,seval];rfl),x+fU e.kids,rfl,by omega⟩ (by repeat (first|exact ag0|refine bE.upd rfl ?_))
  have hkn0:k=l.length:=by have:=aE hc;omega
  clear hc;rw[hkn0,List.take_length]at hx;have hx:x=fU l:=by omega
  subst hx;refine bH ?_;simp only[RR,seval];refine aB fun _ y=>aA rfl ?_;simp only[f3,RR,seval];apply y;clear y;refine aQ ?_;simp only[aX,aN,bI,RR,seval];refine aW.pure ?_;rfl
theorem yU (n:Nat): ∀l:List CS,eZ l≤n→n≤1000000000→dD cN 33 [.isl 6 (l.map CS.row)] (.int .i64 (eZ l:Nat)):=by
 induction n using Nat.strongRecOn with
 |_ n ih=>
  intro l hn hb;have hl:=Dn l;refine bD 29 [.tmp 2] Tryz.func33 rfl rfl rfl rfl ?_;refine aB fun _ y=>aA rfl ?_;simp only[RR,seval];apply y;clear y;refine aB fun _ y=>aA rfl ?_;simp only[aD,RR,seval];apply y;clear y;refine aH ?_;refine aB fun _ y=>aA rfl ?_;simp only[aD,RR,seval];apply y;clear y;refine bL fun F1 M1 hfr hH=>?_;have g2:=hfr 2;have g3:=hfr 3;have g8:=hfr 8;have g9:=hfr 9;have g10:=hfr 10
  try simp only[RR,seval]at g2 g3 g8 g9 g10
  have f2:=g2;clear g2;have f3:=g3;clear g3;have f8:=g8;clear g8;have f9:=g9;clear g9;have f10:=g10;clear g10;clear hfr hH;refine aI ?_;refine cP [2,8,9] (l.length) (fun k fr M=>fr 10= .int .i64 (k:Nat)∧ ∃x:Nat,fr 3= .int .i64 (x:Nat)∧x+k=l.length+eZ (l.take k)) ⟨f10,l.length,f3,by simp [eZ]⟩ ?_;rintro k F2 M2 hk0 ⟨fx,⟨x,f3,hx⟩⟩ agx K0 hK0;have f2:=(agx 2 rfl).trans f2;have f8:=(agx 8 rfl).trans f8;have f9:=(agx 9 rfl).trans f9;have f10:=fx;clear fx;have ag0:=bE.refl [2,8,9] F2;clear agx;refine aB fun _ y=>aA rfl ?_;simp only[f9,f10,RR,seval];apply y;clear y;refine aH ?_;refine aF _ rfl (fun hc=>?_) (fun hc=>?_)
  ·have hlt0:k<l.length:=by have:=aC hc;omega
   clear hc;have hg0:=aG hlt0;have hm:=Dm (bJ hlt0);have hle:=Ui l (k+1);have ht:=Mi hg0;have hs:=(l[k]).sz_eq;have c1:=yZ (fU (l[k]).es) (l[k]).es (aY _) (by omega);have c2:=ih (eZ (l[k]).thn) (by omega) (l[k]).thn (aY _) (by omega);have c3:=ih (eZ (l[k]).els) (by omega) (l[k]).els (aY _) (by omega);have hg:=D8 hg0;generalize l[k]=e at hg0 hm ht hs c1 c2 c3 hg;have z1:IntKind.wrap .i64 ((fU e.es:Nat)+(eZ e.thn:Nat):Int)=((fU e.es+eZ e.thn:Nat):Int):=by rw[aR _ (by omega)];omega
   have z2:IntKind.wrap .i64 (((fU e.es+eZ e.thn:Nat):Int)+(eZ e.els:Nat))=((fU e.es+eZ e.thn+eZ e.els:Nat):Int):=by rw[aR _ (by omega)];omega
   have z3:IntKind.wrap .i64 ((x:Int)+((fU e.es+eZ e.thn+eZ e.els:Nat):Int))=((x+(fU e.es+eZ e.thn+eZ e.els):Nat):Int):=by rw[aR _ (by omega)];omega
   refine aM ?_;try simp only[RR]
   refine aH ?_;refine aI ?_;refine aB fun _ y=>aA rfl ?_;simp only[f8,f10,hg,RR,seval];refine aO fun b5 hn5=>?_;simp only[RR,seval];apply y;clear y;refine bB (fun x=>x≠b5) [(0,3),(1,3),(2,1),(4,3),(5,0),(8,3),(9,0),(3,1),(6,1),(7,3),(10,1),(11,3),(12,3),(13,3)] [] cX (by kernel_rfl) rfl rfl ?_;simp only[cH,dY,f3,RR,seval];refine aU (c1) ?_;simp only[RR,seval];refine aU (c2) ?_;simp only[z1,RR,seval];refine aU (c3) ?_;simp only[z2,z3,RR,seval];refine aA rfl ?_;simp only[f10,RR,seval]
   try rw[aR _ (by omega)]
   refine hK0 _ _ hlt0 ⟨by first|rfl|(simp only[aJ,seval];rfl),x+(fU e.es+eZ e.thn+eZ e.els),rfl,by omega⟩ (by repeat (first|exact ag0|refine bE.upd rfl ?_))
  have hkn0:k=l.length:=by have:=aE hc;omega
  clear hc;rw[hkn0,List.take_length]at hx;have hx:x=eZ l:=by omega
  subst hx;refine bH ?_;simp only[RR,seval];refine aB fun _ y=>aA rfl ?_;simp only[f3,RR,seval];apply y;clear y;refine aQ ?_;simp only[aX,aN,bI,RR,seval];refine aW.pure ?_;rfl
end Go.Proofs.YtnfbbjhdflhmjaaGreatDoor
namespace Go.Al
theorem Dq {α:Type} (z:α→Nat): ∀{l:List α} {k:Nat} {e:α},l[k]?=some e→((l.take (k+1)).map z).sum=((l.take k).map z).sum+z e
 |[],k,e,h=>by simp at h
 |x::l,0,e,h=>by simp only[List.getElem?_cons_zero,Option.some.injEq]at h;subst h;simp
 |x::l,k+1,e,h=>by
  simp only[List.getElem?_cons_succ]at h;have:=Dq z h;simp only[List.take_succ_cons,List.map_cons,List.sum_cons,this];omega
theorem Qo {α:Type} (z:α→Nat): ∀(l:List α) (k:Nat),((l.take k).map z).sum≤(l.map z).sum
 |[],k=>by simp
 |x::l,0=>by simp
 |x::l,k+1=>by have:=Qo z l k;simp only[List.take_succ_cons,List.map_cons,List.sum_cons];omega
theorem Kz {α:Type} (z:α→Nat): ∀{l:List α} {e:α},e∈l→z e≤(l.map z).sum
 |x::l,e,h=>by
  simp only[List.map_cons,List.sum_cons];rcases List.mem_cons.1 h with rfl|h
  ·omega
  have:=Kz z h;omega
end Go.Al
namespace Go.Proofs.YtnfbbjhdflhmjaaGreatDoor
open Go.Al
theorem Ny (c:Co) (hb:Mm c≤1000000000) (hf:c.funs.length≤1000000):dD cN 15 [c.av] (.int .i64 (Mm c:Nat)):=by
 have hav:c.av= .agg [.int .i64 c.words, .isl 5 (c.funs.map CF.row)]:=rfl;rw[hav];unfold Mm at *;generalize c.funs=fs at *;refine bD 20 [.tmp 2] Tryz.func15 rfl rfl rfl rfl ?_;refine aB fun _ y=>aA rfl ?_;simp only[RR,seval];refine aO fun b1 hn1=>?_;simp only[RR,seval];apply y;clear y;refine aB fun _ y=>aA rfl ?_;simp only[RR,seval];apply y;clear y;refine aH ?_;refine aB fun _ y=>aA rfl ?_;simp only[aD,RR,seval];apply y;clear y;refine bL fun F1 M1 hfr hH=>?_;have g2:=hfr 2;have g3:=hfr 3;have g7:=hfr 7;have g8:=hfr 8;have g9:=hfr 9;have gb1:=hH b1
 try simp only[RR,seval]at g2 g3 g7 g8 g9 gb1
 have f2:=g2;clear g2;have f3:=g3;clear g3;have f7:=g7;clear g7;have f8:=g8;clear g8;have f9:=g9;clear g9;have hb1:=gb1;clear gb1;clear hfr hH;refine aI ?_;refine cP [2,7,8] (fs.length) (fun k fr M=>fr 9= .int .i64 (k:Nat)∧M b1=M1 b1∧fr 3= .int .i64 (((fs.take k).map fun f=>eZ f.body).sum:Nat)) ⟨f9,rfl,by simp [f3]⟩ ?_;rintro k F2 M2 hk0 ⟨fx,gb1,f3⟩ agx K0 hK0;have f2:=(agx 2 rfl).trans f2;have f7:=(agx 7 rfl).trans f7;have f8:=(agx 8 rfl).trans f8;have f9:=fx;clear fx;have hb1:=gb1.trans hb1;have ag0:=bE.refl [2,7,8] F2;have e0_b1:=gb1;clear gb1;clear agx;refine aB fun _ y=>aA rfl ?_;simp only[f8,f9,RR,seval];apply y;clear y;refine aH ?_;refine aF _ rfl (fun hc=>?_) (fun hc=>?_)
 ·have hlt0:k<fs.length:=by have:=aC hc;omega
  clear hc;have hg0:=aG hlt0;have hle:=Qo (fun f:CF=>eZ f.body) fs (k+1);have ht:=Dq (fun f:CF=>eZ f.body) hg0;have hkd:=yU (eZ (fs[k]).body) (fs[k]).body (aY _) (by have:=Kz (fun f:CF=>eZ f.body) (bJ hlt0);omega);have hg:=Xp hg0;generalize fs[k]=f at hg0 ht hkd hg;have z1:IntKind.wrap .i64 ((((fs.take k).map fun f=>eZ f.body).sum:Nat)+(eZ f.body:Nat):Int)=(((fs.take (k+1)).map fun f=>eZ f.body).sum:Nat):=by rw[aR _ (by omega)];omega
  refine aM ?_;try simp only[RR]
  refine aH ?_;refine aI ?_;refine aB fun _ y=>aA rfl ?_;simp only[f7,f9,hg,RR,seval];refine aO fun b5 hn5=>?_;have nb5_b1:b5≠b1:=fun e=>by rw[e]at hn5;simp only[hb1,seval,reduceCtorEq]at hn5
  have nb1_b5:b1≠b5:=fun e=>nb5_b1 e.symm;simp only[RR,seval];apply y;clear y;refine aA rfl ?_;simp only[f3,RR,seval];refine aU (hkd) ?_;simp only[z1,RR,seval];refine aA rfl ?_;simp only[f9,RR,seval]
  try rw[aR _ (by omega)]
  refine hK0 _ _ hlt0 ⟨by first|rfl|(simp only[aJ,seval];rfl),(by first|exact e0_b1|(simp only[nb1_b5,aJ,seval];first|done|exact e0_b1)),rfl⟩ (by repeat (first|exact ag0|refine bE.upd rfl ?_))
 have hkn0:k=fs.length:=by have:=aE hc;omega
 clear hc;rw[hkn0,List.take_length]at f3;refine bH ?_;simp only[RR,seval];refine aB fun _ y=>aA rfl ?_;simp only[f3,RR,seval];apply y;clear y;refine aQ ?_;simp only[aX,aN,bI,RR,seval];refine aW.pure ?_;rfl
def Ra (a b:Int×cR×Nat):Bool:=decide (a.1=b.1)&&(decide (a.2.1=b.2.1)&&decide ((a.2.2:Int)=(b.2.2:Int)))
theorem Ac (e e':Int) (o o':cR) (t t':Nat):dD cN 18 [.agg [.int .i64 e, .str o, .int .i64 t], .agg [.int .i64 e', .str o', .int .i64 t']] (.bool (Ra (e,o,t) (e',o',t'))):=by
 unfold Ra;refine bD 24 [.tmp 4] Tryz.func18 rfl rfl rfl rfl ?_;refine aB fun _ y=>aA rfl ?_;simp only[RR,seval];refine aO fun b2 hn2=>?_;simp only[RR,seval];refine aO fun b3 hn3=>?_;have nb3_b2:b3≠b2:=fun e=>by rw[e]at hn3;simp only[RR,seval,reduceCtorEq]at hn3
 have nb2_b3:b2≠b3:=fun e=>nb3_b2 e.symm;simp only[RR,seval];apply y;clear y;refine aB fun _ y=>aA rfl ?_;simp only[nb2_b3,RR,seval]
 repeat' ((first|refine bA (fun h=>?_) (fun h=>?_)|refine bG (fun h=>?_) (fun h=>?_))<;>simp only[h,nb2_b3,RR,seval])
 all_goals
  apply y;clear y;refine aQ ?_;simp only[aX,aN,bI,RR,seval];refine aW.pure ?_;simp_all
end Go.Proofs.YtnfbbjhdflhmjaaGreatDoor
namespace Go.Proofs.YtnfbbjhdflhmjaaGreatDoor
open Go.Al
end Go.Proofs.YtnfbbjhdflhmjaaGreatDoor
namespace Go.Al
end Go.Al
namespace Go.Proofs.YtnfbbjhdflhmjaaGreatDoor
open Go.Al
end Go.Proofs.YtnfbbjhdflhmjaaGreatDoor
namespace Go.Al
end Go.Al
namespace Go.Proofs.YtnfbbjhdflhmjaaGreatDoor
open Go.Al
end Go.Proofs.YtnfbbjhdflhmjaaGreatDoor
namespace Go.Al
end Go.Al
namespace Go.Proofs.YtnfbbjhdflhmjaaGreatDoor
open Go.Al
end Go.Proofs.YtnfbbjhdflhmjaaGreatDoor
namespace Go.Al
structure fC (cx:Kx) (W br bw:Nat) (st:RS) (vo:AV) (H:Hp):Prop where
 r:H br=some (.rows 7 [[.isl 5 (cx.funs.map CF.row), .osl 1 bw st.vars.length, .str cx.inp, .int .i64 st.read,vo, .int .i64 st.ticks, .int .i64 cx.fuel]])
 v:H bw=some (.rows 1 (st.vars.map cZ))
 o:dS 1 vo (st.out.map jX) H
 ov:off vo bw
 uv: ∀x∈st.vars,cC x
 ub:st.out.length≤65536
 rd:st.read≤cx.inp.length
 tk:st.ticks≤cx.fuel
 lw:st.vars.length=W
def dQ (br bw:Nat) (vo vo':AV) (H H':Hp):Prop:= ∀b o,H b=some o→b≠br→b≠bw→off vo b→H' b=some o∧off vo' b
theorem dQ.refl (br bw:Nat) (vo:AV) (H:Hp):dQ br bw vo vo H H:=fun _ _ h _ _ ho=>⟨h,ho⟩
theorem dQ.trans {br bw:Nat} {vo vo1 vo2:AV} {H H1 H2:Hp} (h:dQ br bw vo vo1 H H1) (h':dQ br bw vo1 vo2 H1 H2):dQ br bw vo vo2 H H2:=fun b o hb h1 h2 h4=>by
 obtain⟨g1,g2⟩:=h b o hb h1 h2 h4;exact h' b o g1 h1 h2 g2
theorem dQ.new {br bw bo:Nat} {vo vo1:AV} {H H1:Hp} {o:Option eS} (hn:H bo=none) (h:dQ br bw vo vo1 (upd H bo o) H1):dQ br bw vo vo1 H H1:=fun b o' hb h1 h2 h4=>by
 have :b≠bo:=fun e=>by rw[e,hn]at hb;cases hb
 exact h b o' (by rw[bY _ _ this];exact hb) h1 h2 h4
theorem dQ.updN {br bw b:Nat} {vo vo1:AV} {H H1:Hp} (h:dQ br bw vo vo1 H H1) (hb:H b=none) (o:Option eS):dQ br bw vo vo1 H (upd H1 b o):=fun b' o' hb' h1 h2 h4=>by
 obtain⟨g1,g2⟩:=h b' o' hb' h1 h2 h4;have :b'≠b:=fun e=>by rw[e,hb]at hb';cases hb'
 exact⟨by rw[bY _ _ this];exact g1,g2⟩
section
variable {cx : Kx} {W br bw : Nat} {st : RS} {vo : AV} {H : Hp}
theorem fC.nbr (h:fC cx W br bw st vo H) {b s:Nat} {l:List (List AV)} (hb:H b=some (.rows s l)) (hs:s≠7):b≠br:=fun e=>by rw[e,h.r]at hb;cases hb;exact hs rfl
theorem fC.bwr (h:fC cx W br bw st vo H):bw≠br:=h.nbr h.v (by decide)
theorem fC.new (h:fC cx W br bw st vo H) {b:Nat} (hb:H b=none) (o:Option eS):fC cx W br bw st vo (upd H b o):=by
 have n1:br≠b:=fun e=>by have:=h.r;rw[e,hb]at this;cases this
 have n2:bw≠b:=fun e=>by have:=h.v;rw[e,hb]at this;cases this
 exact {h with r:=by rw[bY _ _ n1];exact h.r,v:=by rw[bY _ _ n2];exact h.v,o:=h.o.upd hb o}
theorem fC.other (h:fC cx W br bw st vo H) {b:Nat} (h1:b≠br) (h2:b≠bw) (h3:off vo b) (o:Option eS):fC cx W br bw st vo (upd H b o):=
 {h with r:=by rw[bY _ _ (Ne.symm h1)];exact h.r,v:=by rw[bY _ _ (Ne.symm h2)];exact h.v,o:=h.o.off h3 o}
theorem fC.turn (h:fC cx W br bw st vo H) {st':RS} (hv:st'.vars=st.vars) (ho:st'.out=st.out) (hrd:st'.read≤cx.inp.length) (htk:st'.ticks≤cx.fuel):
  fC cx W br bw st' vo (upd H br (some (.rows 7 [[.isl 5 (cx.funs.map CF.row), .osl 1 bw st'.vars.length, .str cx.inp, .int .i64 st'.read,vo, .int .i64 st'.ticks, .int .i64 cx.fuel]]))):=
 ⟨bO _ _ _,by rw[bY _ _ h.bwr,hv];exact h.v,by rw[ho];exact h.o.off (h.o.offsz h.r (by decide)) _,h.ov,by rw[hv];exact h.uv,by rw[ho];exact h.ub,hrd,htk,by rw[hv];exact h.lw⟩
theorem dQ.run (o:Option eS):dQ br bw vo vo H (upd H br o):=fun b' o' hb h1 _ h4=>⟨by rw[bY _ _ h1];exact hb,h4⟩
theorem dQ.vars (o:Option eS):dQ br bw vo vo H (upd H bw o):=fun b' o' hb _ h2 h4=>⟨by rw[bY _ _ h2];exact hb,h4⟩
theorem fC.setAll (h:fC cx W br bw st vo H) {l:List Int} (hl:l.length=st.vars.length) (hu: ∀x∈l,cC x):fC cx W br bw {st with vars:=l} vo (upd H bw (some (.rows 1 (l.map cZ)))):=by
 have n2:br≠bw:=Ne.symm h.bwr;refine⟨?_,bO _ _ _,h.o.off h.ov _,h.ov,hu,h.ub,h.rd,h.tk,hl.trans h.lw⟩;rw[bY _ _ n2];show H br=some (.rows 7 [[_, .osl 1 bw l.length,_,_,_,_,_]]);rw[hl];exact h.r
theorem fC.setV (h:fC cx W br bw st vo H) (i:Nat) (v:Int) (hv:cC v):fC cx W br bw {st with vars:=st.vars.set i v} vo (upd H bw (some (.rows 1 ((st.vars.map cZ).set i [.int .u32 v])))):=by
 rw[iZ];refine h.setAll (by simp) fun x hx=>?_;rcases List.mem_or_eq_of_mem_set hx with hx|rfl
 ·exact h.uv x hx
 exact hv
theorem fC.sub {H':Hp} (h:fC cx W br bw st vo H) (hk: ∀b o,H b=some o→H' b=some o):fC cx W br bw st vo H':=by
 have ho:dS 1 vo (st.out.map jX) H':=by
  rcases h.o with g|⟨b,g1,g2⟩
  ·exact .inl g
  exact .inr ⟨b,g1,hk _ _ g2⟩
 exact {h with r:=hk _ _ h.r,v:=hk _ _ h.v,o:=ho}
theorem fC.put {v':AV} {H':Hp} (h:fC cx W br bw st vo H) {c:UInt8} (hl:st.out.length<65536) (ho:dS 1 v' (st.out.map jX++[jX c]) H')
  (hk: ∀b o,H b=some o→vo≠ .osl 1 b (st.out.map jX).length→H' b=some o) (hg: ∀b,off vo b→H b≠none→off v' b):
  fC cx W br bw {st with out:=st.out++[c]} v' (upd H' br (some (.rows 7 [[.isl 5 (cx.funs.map CF.row), .osl 1 bw st.vars.length, .str cx.inp, .int .i64 st.read,v', .int .i64 st.ticks, .int .i64 cx.fuel]])))∧
  dQ br bw vo v' H (upd H' br (some (.rows 7 [[.isl 5 (cx.funs.map CF.row), .osl 1 bw st.vars.length, .str cx.inp, .int .i64 st.read,v', .int .i64 st.ticks, .int .i64 cx.fuel]]))):=by
 have n2:=h.bwr;have hob:off vo br:=h.o.offsz h.r (by decide);have hob':off v' br:=hg br hob (by rw[h.r];exact bS _);refine⟨⟨bO _ _ _, ?_, ?_,hg bw h.ov (by rw[h.v];exact bS _),h.uv, ?_,h.rd,h.tk,h.lw⟩,fun b o hb h1 h2 h4=>⟨?_,hg b h4 (by rw[hb];exact bS _)⟩⟩
 ·rw[bY _ _ n2];exact hk _ _ h.v (h.ov _ _)
 ·rw[List.map_append]
  exact ho.off hob' _
 ·simp only[bU,List.length_singleton];omega
 rw[bY _ _ h1];exact hk _ _ hb (h4 _ _)
theorem Je (vars vs:List Int) (a n:Nat) (h:a+n≤vars.length) (hp:vs.length≤n) (z:List AV):
  (((vars.map cZ).take a++List.replicate n [AV.int .u32 0]++(vars.map cZ).drop (a+n)).take a++(((vs.map (AV.int .u32))++z).take vs.length).map (fun x=>[x])++((vars.map cZ).take a++List.replicate n [AV.int .u32 0]++(vars.map cZ).drop (a+n)).drop (a+vs.length))=
  (vars.take a++(vs++List.replicate (n-vs.length) 0)++vars.drop (a+n)).map cZ:=by
 have e1:((vars.map cZ).take a).length=a:=by rw[cF,aD];omega
 have e2:((vs.map (AV.int .u32))++z).take vs.length=vs.map (AV.int .u32):=by rw[List.take_left' (by rw[aD])]
 have e3:(vs.map (AV.int .u32)).map (fun x=>[x])=vs.map cZ:=by rw[List.map_map];rfl
 rw[List.append_assoc ((vars.map cZ).take a),List.take_left' e1,e2,e3]
 have e4:((vars.map cZ).take a++(List.replicate n [AV.int .u32 0]++(vars.map cZ).drop (a+n))).drop (a+vs.length)=(List.replicate n [AV.int .u32 0]++(vars.map cZ).drop (a+n)).drop vs.length:=by
  rw[List.drop_append,e1,List.drop_eq_nil_of_le (by rw[e1];omega),List.nil_append,Nat.add_sub_cancel_left]
 rw[e4,List.drop_append_of_le_length (by rw[cO];exact hp),List.drop_replicate];simp only[List.map_append,List.map_take,List.map_drop,List.map_replicate,List.append_assoc];rfl
end
structure zH (cx:Kx) (W:Nat):Prop where
 inp:cx.inp.length≤2000000
 fuel:cx.fuel<9223372036854775808
 wl:W≤32768
 funs:Kb (W:Int) cx.funs
 body: ∀f∈cx.funs,Es f.body
end Go.Al
namespace Go.Proofs.YtnfbbjhdflhmjaaGreatDoor
open Go.Al
def Jf (e:Int):AV:= .ifc 78 (.agg [.int .i64 e])
def kY {α:Type} (cx:Kx) (W br bw:Nat) (vo:AV) (H:Hp) (f:α→AV) (P:α→Prop) (r:Rz α):kD→Hp→Prop:=fun ae H'=>
 ∃vo',(match r with | .val v _=>ae= .ret (f v)∧P v| .fin e _=>ae= .pan (Jf e))∧fC cx W br bw r.st vo' H'∧dQ br bw vo vo' H H'
theorem fA {α:Type} {F:Nat→Prop} {ds:List (Option Nat)} {Q:dI} {d:Option Nat} {rest:List Oper} {fr:Fr} {H:Hp} {g:FuncId} {args:List AV} {cx:Kx} {W br bw:Nat} {vo:AV} {f:α→AV} {P:α→Prop} {r:Rz α}
  (hc:gK cN g args H (kY cx W br bw vo H f P r)) (hF: ∀b,F b)
  (hp: ∀e s vo' H',r= .fin e s→fC cx W br bw s vo' H'→dQ br bw vo vo' H H'→Q (.pan (Jf e)) An H')
  (hv: ∀v s vo' H',r= .val v s→P v→fC cx W br bw s vo' H'→dQ br bw vo vo' H H'→cQ cN F ds Q rest (dR fr d (f v)) H'):nQ cN F ds Q d rest fr H g args:=by
 refine jK hc hF fun ae H' ⟨vo',h1,h2,h3⟩=>?_
 cases r with
 |val v s=>
  obtain⟨h1,h4⟩:=h1;subst h1;exact hv v s vo' H' rfl h4 h2 h3
 |fin e s=>
  subst h1;exact hp e s vo' H' rfl h2 h3
section
variable {cx : Kx} {W r w : Nat} {st : RS} {vo : AV} {H : Hp}
theorem De (hx:zH cx W) (hR:fC cx W r w st vo H):gK cN 133 [.ptr 7 r 0 0] H (kY cx W r w vo H (fun _=> .tup []) (fun _=>True) (eQ cx.cx st)):=by
 have hr:=hR.r;by_cases hf:cx.fuel≤st.ticks
 ·have zf:(cx.fuel:Int)≤(st.ticks:Int):=by omega
  have e:eQ cx.cx st= .fin 5 st:=by unfold eQ;rw[if_pos (show cx.cx.fuel≤st.ticks from hf)]
  rw[e];refine bD 20 [] Tryz.func133 rfl rfl rfl rfl ?_;refine aH ?_;refine aB fun K y=>?_;refine bB (fun x=>x≠r) [(0,3),(1,3),(2,3),(3,1),(4,3),(5,3),(6,3),(7,1),(8,3)] [] cX (by kernel_rfl) rfl rfl ?_;simp only[cH,hr,zf,RR,seval];apply y;clear y;refine aF true rfl (fun _=>?_) (fun hc=>by cases hc);refine aA rfl ?_;simp only[RR,seval];simp only[bR,bT];exact⟨vo,rfl,hR,dQ.refl _ _ _ _⟩
 have zf: ¬(cx.fuel:Int)≤(st.ticks:Int):=by omega
 have e:eQ cx.cx st= .val () {st with ticks:=st.ticks+1}:=by unfold eQ;rw[if_neg (show ¬cx.cx.fuel≤st.ticks from hf)]
 rw[e];have hfu:=hx.fuel;have e1:IntKind.wrap .i64 ((st.ticks:Int)+1)=((st.ticks+1:Nat):Int):=by rw[aR _ (by omega)];omega
 refine bD 20 [] Tryz.func133 rfl rfl rfl rfl ?_;refine aH ?_;refine aB fun K y=>?_;refine bB (fun x=>x≠r) [(0,3),(1,3),(2,3),(3,1),(4,3),(5,3),(6,3),(7,1),(8,3)] [] cX (by kernel_rfl) rfl rfl ?_;simp only[cH,hr,zf,RR,seval];apply y;clear y;refine aF false rfl (fun hc=>by cases hc) (fun _=>?_);refine aM ?_;try simp only[RR]
 refine aA rfl ?_;simp only[hr,e1,RR,seval]
 try simp only[aX,aN,bI,seval]
 exact aW.run ⟨vo,⟨rfl,trivial⟩,hR.turn (st':={st with ticks:=st.ticks+1}) rfl rfl hR.rd (by show st.ticks+1≤_;omega),dQ.run _⟩
theorem Vg (hx:zH cx W) (hR:fC cx W r w st vo H):gK cN 130 [.ptr 7 r 0 0] H (kY cx W r w vo H (fun n=> .int .u32 n) cC (lW cx.cx st)):=by
 have hr:=hR.r;have hrd:=hR.rd;have hin:=hx.inp;by_cases hf:cx.inp.length≤st.read
 ·have zf:(cx.inp.length:Int)≤(st.read:Int):=by omega
  have e:lW cx.cx st= .val 256 st:=by unfold lW;rw[List.getElem?_eq_none (show cx.cx.inp.length≤st.read from hf)]
  rw[e];refine bD 32 [.tmp 2] Tryz.func130 rfl rfl rfl rfl ?_;refine aB fun _ y=>aA rfl ?_;simp only[RR,seval];apply y;clear y;refine aH ?_;refine aB fun K y=>?_;refine bB (fun x=>x≠r) [(0,3),(1,3),(2,3),(3,1),(4,3),(5,3),(6,3),(7,1),(8,3),(9,3)] [] cX (by kernel_rfl) rfl rfl ?_;simp only[cH,hr,zf,RR,seval];apply y;clear y;refine aF true rfl (fun _=>?_) (fun hc=>by cases hc);refine aB fun _ y=>aA rfl ?_;simp only[RR,seval];apply y;clear y;refine aQ ?_;simp only[aX,aN,bI,RR,seval];exact aW.run ⟨vo,⟨rfl,by simp [cC]⟩,hR,dQ.refl _ _ _ _⟩;skip
 have zf: ¬(cx.inp.length:Int)≤(st.read:Int):=by omega
 have hg:=aG (show st.read<cx.inp.length by omega);generalize cx.inp[st.read]=c at hg;have e:lW cx.cx st= .val c.toNat {st with read:=st.read+1}:=by unfold lW;rw[show cx.cx.inp[st.read]?=some c from hg]
 rw[e];have e1:IntKind.wrap .i64 ((st.read:Int)+1)=((st.read+1:Nat):Int):=by rw[aR _ (by omega)];omega
 have hc:=UInt8.toNat_lt c;have hu:cC (c.toNat:Int):=⟨by omega,by omega⟩;have e2:IntKind.wrap .u32 (c.toNat:Int)=(c.toNat:Int):=by simp [IntKind.wrap,IntKind.signed,IntKind.bits];omega
 refine bD 32 [.tmp 2] Tryz.func130 rfl rfl rfl rfl ?_;refine aB fun _ y=>aA rfl ?_;simp only[RR,seval];apply y;clear y;refine aH ?_;refine aB fun K y=>?_;refine bB (fun x=>x≠r) [(0,3),(1,3),(2,3),(3,1),(4,3),(5,3),(6,3),(7,1),(8,3),(9,3)] [] cX (by kernel_rfl) rfl rfl ?_;simp only[cH,hr,zf,RR,seval];apply y;clear y;refine aF false rfl (fun hc=>by cases hc) (fun _=>?_);refine aM ?_;try simp only[RR]
 refine aB fun K y=>?_;refine bB (fun x=>x≠r) [(0,3),(1,3),(2,3),(3,1),(4,3),(5,3),(6,3),(7,1),(8,3),(9,3)] [] cX (by kernel_rfl) rfl rfl ?_;simp only[cH,hr,hg,RR,seval];apply y;clear y;refine aB fun _ y=>aA rfl ?_;simp only[hr,e1,RR,seval];apply y;clear y;refine aB fun _ y=>aA rfl ?_;simp only[e2,RR,seval];apply y;clear y;refine aQ ?_;simp only[aX,aN,bI,RR,seval];exact aW.run ⟨vo,⟨rfl,hu⟩,hR.turn (st':={st with read:=st.read+1}) rfl rfl (by show st.read+1≤_;omega) hR.tk,dQ.run _⟩;skip
theorem Uu (hR:fC cx W r w st vo H) (n:Int):gK cN 97 [.ptr 7 r 0 0, .int .u32 n] H (kY cx W r w vo H (fun _=> .tup []) (fun _=>True) (kX n st)):=by
 have hr:=hR.r;have hown:=hR.o;have hub:=hR.ub
 have hlen: ∃m,st.out.length=m∧(vo= .nsl∧m=0∨ ∃b,vo= .osl 1 b m):=⟨_,rfl,by
  rcases hown with⟨h1,h2⟩|⟨b,h1,h2⟩
  ·exact .inl ⟨h1,by simpa using h2⟩
  exact .inr ⟨b,by simpa using h1⟩⟩
 obtain⟨m,hm,hvo⟩:=hlen;by_cases hf:65536≤st.out.length
 ·have zf:(65536:Int)≤(m:Int):=by omega
  have e:kX n st= .fin 4 st:=by unfold kX;rw[if_pos hf]
  rw[e];rcases hvo with⟨rfl,rfl⟩|⟨b,rfl⟩
  ·omega
  skip;refine bD 23 [] Tryz.func97 rfl rfl rfl rfl ?_;refine aH ?_;refine aB fun _ y=>aA rfl ?_;simp only[hr,zf,RR,seval];apply y;clear y;refine aF true rfl (fun _=>?_) (fun hc=>by cases hc);refine aA rfl ?_;simp only[RR,seval];simp only[bR,bT];exact⟨_,rfl,hR,dQ.refl _ _ _ _⟩
 have zf: ¬(65536:Int)≤(m:Int):=by omega
 have e:kX n st= .val () {st with out:=st.out++[UInt8.ofNat (IntKind.wrap .u8 n).toNat]}:=by unfold kX;rw[if_neg hf]
 rw[e]
 have hc:((UInt8.ofNat (IntKind.wrap .u8 n).toNat).toNat:Int)=IntKind.wrap .u8 n:=by
  have h1:IntKind.wrap .u8 n=n % 256:=by simp [IntKind.wrap,IntKind.signed,IntKind.bits]
  rw[h1];have:=Int.emod_nonneg n (show(256:Int)≠0 by decide);have:=Int.emod_lt_of_pos n (show(0:Int)<256 by decide);simp only[UInt8.toNat_ofNat'];omega
 have hrow:[AV.int .u8 (IntKind.wrap .u8 n)]=jX (UInt8.ofNat (IntKind.wrap .u8 n).toNat):=by unfold jX;rw[hc]
 generalize UInt8.ofNat (IntKind.wrap .u8 n).toNat=c at hrow;clear hc e;rcases hvo with⟨rfl,rfl⟩|⟨b,rfl⟩
 all_goals
  have zg: ¬(65536:Int)≤0:=by decide
  refine bD 23 [] Tryz.func97 rfl rfl rfl rfl ?_;refine aH ?_;refine aB fun _ y=>aA rfl ?_;simp only[hr,zf,zg,RR,seval];apply y;clear y;refine aF false rfl (fun hc=>by cases hc) (fun _=>?_);refine aM ?_;try simp only[RR]
  refine aA rfl ?_;simp only[hr,RR,seval];refine dH ?_;simp only[RR,seval];refine gT hown (by simp only[aD,bP,List.length_nil];omega) (fun _ _=>trivial) fun v' H' ho' hk' hg'=>?_;have hce:=ho'.cells;have hoe:=ho'.one1;have hr:=hk' r _ hr (hown.offsz hr (by decide) _ _);simp only[hce,hoe,Option.bind_some,List.drop,hr,RR,seval];simp only[aX,aN,bI];rw[hrow]at ho';obtain⟨g1,g2⟩:=hR.put (by omega) ho' hk' hg';exact aW.run ⟨v',⟨rfl,trivial⟩,g1,g2⟩
theorem Tn (q:AV) {a' z' x':Int} (hx:cC x') (hz:0≤z'∧z'≤4096) (ha:0≤a'∧a'≤32768) (hf:x'<z'):
  dD cN 96 [q, .int .i64 a', .int .i64 z', .int .u32 x'] (.int .i64 (a'+x')):=by
 have hx1:=hx.1;have hx2:=hx.2;have e1:IntKind.wrap .u64 x'=x':=by simp [IntKind.wrap,IntKind.signed,IntKind.bits];omega
 have e2:IntKind.wrap .u64 z'=z':=by simp [IntKind.wrap,IntKind.signed,IntKind.bits];omega
 have e3:IntKind.wrap .i64 x'=x':=by rw[aR _ (by omega)]
 have zf: ¬z'≤x':=by omega
 have e4:IntKind.wrap .i64 (a'+x')=a'+x':=by rw[aR _ (by omega)]
 refine bD 20 [.tmp 8] Tryz.func96 rfl rfl rfl rfl ?_;refine aB fun _ y=>aA rfl ?_;simp only[RR,seval];apply y;clear y;refine aH ?_;refine aB fun _ y=>aA rfl ?_;simp only[zf,e1,e2,RR,seval];apply y;clear y;refine aF false rfl (fun hc=>by cases hc) (fun _=>?_);refine aM ?_;try simp only[RR]
 refine aB fun _ y=>aA rfl ?_;simp only[e3,e4,RR,seval];apply y;clear y;refine aQ ?_;simp only[aX,aN,bI,RR,seval];refine aW.pure ?_;rfl
theorem Zr (q:AV) (a':Int) {z' x':Int} (hx:cC x') (hz:0≤z'∧z'≤4096) (hf: ¬x'<z'):
  gK cN 96 [q, .int .i64 a', .int .i64 z', .int .u32 x'] oV (fun ae H'=>ae= .pan (Jf 3)∧H'=oV):=by
 have hx1:=hx.1;have hx2:=hx.2;have e1:IntKind.wrap .u64 x'=x':=by simp [IntKind.wrap,IntKind.signed,IntKind.bits];omega
 have e2:IntKind.wrap .u64 z'=z':=by simp [IntKind.wrap,IntKind.signed,IntKind.bits];omega
 have zf:z'≤x':=by omega
 refine bD 20 [.tmp 8] Tryz.func96 rfl rfl rfl rfl ?_;refine aB fun _ y=>aA rfl ?_;simp only[RR,seval];apply y;clear y;refine aH ?_;refine aB fun _ y=>aA rfl ?_;simp only[zf,e1,e2,RR,seval];apply y;clear y;refine aF true rfl (fun _=>?_) (fun hc=>by cases hc);refine aA rfl ?_;simp only[RR,seval];simp only[bR,bT];exact⟨rfl,by first|rfl|trivial⟩
theorem Lu {F:Nat→Prop} {ds:List (Option Nat)} {Q:dI} {d:Option Nat} {rest:List Oper} {fr:Fr} {q:AV} {a z x:Int} {H:Hp} (hx:cC x) (hz:0≤z∧z≤4096) (hf: ¬x<z) (hp:Q (.pan (Jf 3)) An H):
  nQ cN F ds Q d rest fr H 96 [q, .int .i64 a, .int .i64 z, .int .u32 x]:=by
 refine lL (Zr q a hx hz hf) (fB.refl _) (lD _) (fun b hb=>absurd rfl hb) fun ae H' h hnew=>?_;obtain⟨rfl,rfl⟩:=h;rw[Aj];exact hp
end
theorem sV (b:Bool):dD cN 132 [.bool b] (.int .u32 (if b=true then 1 else 0)):=by
 cases b
 ·skip
  refine bD 4 [.tmp 2] Tryz.func132 rfl rfl rfl rfl ?_;refine aB fun _ y=>aA rfl ?_;simp only[RR,seval];apply y;clear y;refine aH ?_;refine aB fun _ y=>aA rfl ?_;simp only[RR,seval];apply y;clear y;refine aF false rfl (fun hc=>by cases hc) (fun _=>?_);refine aM ?_;try simp only[RR]
  refine aB fun _ y=>aA rfl ?_;simp only[RR,seval];apply y;clear y;refine aQ ?_;simp only[aX,aN,bI,RR,seval];refine aW.pure ?_;rfl
 skip;refine bD 4 [.tmp 2] Tryz.func132 rfl rfl rfl rfl ?_;refine aB fun _ y=>aA rfl ?_;simp only[RR,seval];apply y;clear y;refine aH ?_;refine aB fun _ y=>aA rfl ?_;simp only[RR,seval];apply y;clear y;refine aF true rfl (fun _=>?_) (fun hc=>by cases hc);refine aB fun _ y=>aA rfl ?_;simp only[RR,seval];apply y;clear y;refine aQ ?_;simp only[aX,aN,bI,RR,seval];refine aW.pure ?_;rfl
end Go.Proofs.YtnfbbjhdflhmjaaGreatDoor
