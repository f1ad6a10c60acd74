/- Chapter 19: how great a core is; how many gets there are; are results alike? -/
import Derived.Test.YtnfbbjhdflhmjaaGreatDoorGLc
set_option linter.unusedSimpArgs false
set_option linter.unusedVariables false
set_option maxRecDepth 10000
namespace Go.Al
theorem pD {α:Type} (z:α→Nat): ∀{l:List α} {k:Nat} {e:α},l[k]?=some e→((l.take (k+1)).map z).sum=((l.take k).map z).sum+z e
 |[],k,e,h=>by simp at h
 |x::l,0,e,h=>by simp only[List.getElem?_cons_zero,Option.some.injEq]at h;subst h;simp
 |x::l,k+1,e,h=>by
  simp only[List.getElem?_cons_succ]at h;have:=pD z h;simp only[List.take_succ_cons,List.map_cons,List.sum_cons,this];omega
theorem Dj {α:Type} (z:α→Nat): ∀(l:List α) (k:Nat),((l.take k).map z).sum≤(l.map z).sum
 |[],k=>by simp
 |x::l,0=>by simp
 |x::l,k+1=>by have:=Dj z l k;simp only[List.take_succ_cons,List.map_cons,List.sum_cons];omega
theorem Dq {α:Type} (z:α→Nat): ∀{l:List α} {e:α},e∈l→z e≤(l.map z).sum
 |x::l,e,h=>by
  simp only[List.map_cons,List.sum_cons];rcases List.mem_cons.1 h with rfl|h
  ·omega
  have:=Dq z h;omega
theorem Kq: ∀l:List CE,gP l=(l.map vJ).sum
 |[]=>rfl
 |e::l=>by simp only[gP,Kq l,List.map_cons,List.sum_cons]
theorem Ko: ∀l:List CS,gO l=(l.map Bw).sum
 |[]=>rfl
 |e::l=>by simp only[gO,Ko l,List.map_cons,List.sum_cons]
theorem Tp (e:CE):vJ e=(if e.kind=5 then 1 else 0)+gP e.kids:=by cases e;rw[vJ];rfl
theorem To (e:CS):Bw e=gP e.es+gO e.thn+gO e.els:=by cases e;simp only[Bw,CS.es,CS.thn,CS.els]
theorem Pj (n:Nat): ∀l:List CE,dR l≤n→gP l≤dR l:=by
 induction n with
 |zero=>intro l h;cases l with |nil=>simp [gP]|cons e l=>have:=e.sz_eq;simp only[dR]at h;omega
 |succ n ih=>
  intro l
  induction l with
  |nil=>intro _;simp [gP]
  |cons e l ihl=>
   intro h;have hs:=e.sz_eq;simp only[dR]at h⊢;have h1:=ih e.kids (by omega);have h2:=ihl (by omega);simp only[gP,Tp];split<;>omega
theorem A9 (n:Nat): ∀l:List CS,dB l≤n→gO l≤dB l:=by
 induction n with
 |zero=>intro l h;cases l with |nil=>simp [gO]|cons e l=>have:=e.sz_eq;simp only[dB]at h;omega
 |succ n ih=>
  intro l
  induction l with
  |nil=>intro _;simp [gO]
  |cons e l ihl=>
   intro h;have hs:=e.sz_eq;simp only[dB]at h⊢;have h1:=Pj (dR e.es) e.es (aY _);have h2:=ih e.thn (by omega);have h3:=ih e.els (by omega);have h4:=ihl (by omega);simp only[gO,To];omega
theorem Yt (row:List AV) (j:Nat):(∀b:Nat,iR (.ipt row j)=some b→False)=True:=propext ⟨fun _=>trivial,fun _ _ h=>by cases h⟩
def R1 (c:Co):Nat:=(c.funs.map fun f=>gO f.body).sum
end Go.Al
namespace Go.Proofs.YtnfbbjhdflhmjaaGreatDoor
open Go.Al
theorem Ci (c:Co) (hb:sR c≤1000000000) (hf:c.funs.length≤1000000):cJ cK 15 [c.av] (.int .i64 (sR c:Nat)):=by
 have hav:c.av= .agg [.int .i64 c.words, .isl 5 (c.funs.map CF.row)]:=rfl;rw[hav];unfold sR at *;generalize c.funs=fs at *;refine bI 20 [.tmp 2] Tryz.func15 rfl rfl rfl rfl ?_;refine aB fun _ y=>aA rfl ?_;simp only[RR,seval];refine aP fun b1 hn1=>?_;simp only[RR,seval];apply y;clear y;refine aB fun _ y=>aA rfl ?_;simp only[RR,seval];apply y;clear y;refine aI ?_;refine aB fun _ y=>aA rfl ?_;simp only[aD,RR,seval];apply y;clear y;refine bM fun F1 M1 hfr hH=>?_;have g2:=hfr 2;have g3:=hfr 3;have g7:=hfr 7;have g8:=hfr 8;have g9:=hfr 9;have gb1:=hH b1
 try simp only[RR,seval]at g2 g3 g7 g8 g9 gb1
 have f2:=g2;clear g2;have f3:=g3;clear g3;have f7:=g7;clear g7;have f8:=g8;clear g8;have f9:=g9;clear g9;have hb1:=gb1;clear gb1;clear hfr hH;refine aM ?_;refine bZ [2,7,8] (fs.length) (fun k fr M=>fr 9= .int .i64 (k:Nat)∧M b1=M1 b1∧fr 3= .int .i64 (((fs.take k).map fun f=>dB f.body).sum:Nat)) ⟨f9,rfl,by simp [f3]⟩ ?_;rintro k F2 M2 hk0 ⟨fx,gb1,f3⟩ agx K0 hK0;have f2:=(agx 2 rfl).trans f2;have f7:=(agx 7 rfl).trans f7;have f8:=(agx 8 rfl).trans f8;have f9:=fx;clear fx;have hb1:=gb1.trans hb1;have ag0:=bC.refl [2,7,8] F2;have e0_b1:=gb1;clear gb1;clear agx;refine aB fun _ y=>aA rfl ?_;simp only[f8,f9,RR,seval];apply y;clear y;refine aI ?_;refine aH _ rfl (fun hc=>?_) (fun hc=>?_)
 ·have hlt0:k<fs.length:=by have:=aC hc;omega
  clear hc;have hg0:=aG hlt0;have hle:=Dj (fun f:CF=>dB f.body) fs (k+1);have ht:=pD (fun f:CF=>dB f.body) hg0;have hkd:=Ae (dB (fs[k]).body) (fs[k]).body (aY _) (by have:=Dq (fun f:CF=>dB f.body) (bA hlt0);omega);have hg:=rQ hg0;generalize fs[k]=f at hg0 ht hkd hg;have z1:IntKind.wrap .i64 ((((fs.take k).map fun f=>dB f.body).sum:Nat)+(dB f.body:Nat):Int)=(((fs.take (k+1)).map fun f=>dB f.body).sum:Nat):=by rw[aQ _ (by omega)];omega
  refine aK ?_;try simp only[RR]
  refine aI ?_;refine aM ?_;refine aB fun _ y=>aA rfl ?_;simp only[f7,f9,hg,RR,seval];refine aP fun b5 hn5=>?_;have nb5_b1:b5≠b1:=fun e=>by rw[e]at hn5;simp only[hb1,seval,reduceCtorEq]at hn5
  have nb1_b5:b1≠b5:=fun e=>nb5_b1 e.symm;simp only[RR,seval];apply y;clear y;refine aA rfl ?_;simp only[f3,RR,seval];refine aN (hkd) ?_;simp only[z1,RR,seval];refine aA rfl ?_;simp only[f9,RR,seval]
  try rw[aQ _ (by omega)]
  refine hK0 _ _ hlt0 ⟨by first|rfl|(simp only[aJ,seval];rfl),(by first|exact e0_b1|(simp only[nb1_b5,aJ,seval];first|done|exact e0_b1)),rfl⟩ (by repeat (first|exact ag0|refine bC.upd rfl ?_))
 have hkn0:k=fs.length:=by have:=aF hc;omega
 clear hc;rw[hkn0,List.take_length]at f3;refine bF ?_;simp only[RR,seval];refine aB fun _ y=>aA rfl ?_;simp only[f3,RR,seval];apply y;clear y;refine aO ?_;simp only[bB,aL,bH,RR,seval];refine aZ.pure ?_;rfl
def Yy (a b:Int×dD×Nat):Bool:=decide (a.1=b.1)&&(decide (a.2.1=b.2.1)&&decide ((a.2.2:Int)=(b.2.2:Int)))
theorem Ot (e e':Int) (o o':dD) (t t':Nat):cJ cK 18 [.agg [.int .i64 e, .str o, .int .i64 t], .agg [.int .i64 e', .str o', .int .i64 t']] (.bool (Yy (e,o,t) (e',o',t'))):=by
 unfold Yy;refine bI 24 [.tmp 4] Tryz.func18 rfl rfl rfl rfl ?_;refine aB fun _ y=>aA rfl ?_;simp only[RR,seval];refine aP fun b2 hn2=>?_;simp only[RR,seval];refine aP fun b3 hn3=>?_;have nb3_b2:b3≠b2:=fun e=>by rw[e]at hn3;simp only[RR,seval,reduceCtorEq]at hn3
 have nb2_b3:b2≠b3:=fun e=>nb3_b2 e.symm;simp only[RR,seval];apply y;clear y;refine aB fun _ y=>aA rfl ?_;simp only[nb2_b3,RR,seval]
 repeat' ((first|refine aR (fun h=>?_) (fun h=>?_)|refine aV (fun h=>?_) (fun h=>?_))<;>simp only[h,nb2_b3,RR,seval])
 all_goals
  apply y;clear y;refine aO ?_;simp only[bB,aL,bH,RR,seval];refine aZ.pure ?_;simp_all
end Go.Proofs.YtnfbbjhdflhmjaaGreatDoor
