/- Chapter 19: how great a core is (the program's); how many gets there are (the law's). -/
import Derived.Test.YtnfbbjhdflhmjaaGreatDoorCx
import Derived.Test.YtnfbbjhdflhmjaaGreatDoorGLb
set_option linter.unusedSimpArgs false
set_option linter.unusedVariables false
set_option maxRecDepth 10000
namespace Go.Al
theorem Ol {l:List CE} {k:Nat} {e:CE} (h:l[k]?=some e):dR (l.take (k+1))=dR (l.take k)+(1+dR e.kids):=by
 induction l generalizing k with
 |nil=>simp at h
 |cons x l ih=>
  cases k with
  |zero=>
   simp only[List.getElem?_cons_zero,Option.some.injEq]at h;subst h;simp only[List.take_succ_cons,List.take_zero,dR,x.sz_eq];omega
  |succ k=>
   simp only[List.getElem?_cons_succ]at h;simp only[List.take_succ_cons,dR,ih h];omega
theorem Ok {l:List CS} {k:Nat} {e:CS} (h:l[k]?=some e):dB (l.take (k+1))=dB (l.take k)+(1+dR e.es+dB e.thn+dB e.els):=by
 induction l generalizing k with
 |nil=>simp at h
 |cons x l ih=>
  cases k with
  |zero=>
   simp only[List.getElem?_cons_zero,Option.some.injEq]at h;subst h;simp only[List.take_succ_cons,List.take_zero,dB,x.sz_eq];omega
  |succ k=>
   simp only[List.getElem?_cons_succ]at h;simp only[List.take_succ_cons,dB,ih h];omega
theorem Vd (l:List CE) (k:Nat):dR (l.take k)≤dR l:=by
 induction l generalizing k with
 |nil=>simp
 |cons x l ih=>cases k with
  |zero=>simp [dR]
  |succ k=>simp only[List.take_succ_cons,dR];have:=ih k;omega
theorem Vc (l:List CS) (k:Nat):dB (l.take k)≤dB l:=by
 induction l generalizing k with
 |nil=>simp
 |cons x l ih=>cases k with
  |zero=>simp [dB]
  |succ k=>simp only[List.take_succ_cons,dB];have:=ih k;omega
theorem E9 (l:List CE):l.length≤dR l:=pC l
end Go.Al
namespace Go.Proofs.YtnfbbjhdflhmjaaGreatDoor
open Go.Al
theorem Ao (n:Nat): ∀l:List CE,dR l≤n→n≤1000000000→cJ cK 61 [.isl 6 (l.map CE.row)] (.int .i64 (dR l:Nat)):=by
 induction n using Nat.strongRecOn with
 |_ n ih=>
  intro l hn hb;have hl:=pC l;refine bI 21 [.tmp 2] Tryz.func61 rfl rfl rfl rfl ?_;refine aB fun _ y=>aA rfl ?_;simp only[RR,seval];apply y;clear y;refine aB fun _ y=>aA rfl ?_;simp only[aD,RR,seval];apply y;clear y;refine aI ?_;refine aB fun _ y=>aA rfl ?_;simp only[aD,RR,seval];apply y;clear y;refine bM fun F1 M1 hfr hH=>?_;have g2:=hfr 2;have g3:=hfr 3;have g8:=hfr 8;have g9:=hfr 9;have g10:=hfr 10
  try simp only[RR,seval]at g2 g3 g8 g9 g10
  have f2:=g2;clear g2;have f3:=g3;clear g3;have f8:=g8;clear g8;have f9:=g9;clear g9;have f10:=g10;clear g10;clear hfr hH;refine aM ?_;refine bZ [2,8,9] (l.length) (fun k fr M=>fr 10= .int .i64 (k:Nat)∧ ∃x:Nat,fr 3= .int .i64 (x:Nat)∧x+k=l.length+dR (l.take k)) ⟨f10,l.length,f3,by simp [dR]⟩ ?_;rintro k F2 M2 hk0 ⟨fx,⟨x,f3,hx⟩⟩ agx K0 hK0;have f2:=(agx 2 rfl).trans f2;have f8:=(agx 8 rfl).trans f8;have f9:=(agx 9 rfl).trans f9;have f10:=fx;clear fx;have ag0:=bC.refl [2,8,9] F2;clear agx;refine aB fun _ y=>aA rfl ?_;simp only[f9,f10,RR,seval];apply y;clear y;refine aI ?_;refine aH _ rfl (fun hc=>?_) (fun hc=>?_)
  ·have hlt0:k<l.length:=by have:=aC hc;omega
   clear hc;have hg0:=aG hlt0;have hm:=mU (bA hlt0);have hle:=Vd l (k+1);have ht:=Ol hg0;have hs:=(l[k]).sz_eq;have hkd:=ih (dR (l[k]).kids) (by omega) (l[k]).kids (aY _) (by omega);have hg:=yG hg0;generalize l[k]=e at hg0 hm ht hs hkd hg;have z1:IntKind.wrap .i64 ((x:Int)+(dR e.kids:Nat))=((x+dR e.kids:Nat):Int):=by rw[aQ _ (by omega)];omega
   refine aK ?_;try simp only[RR]
   refine aI ?_;refine aM ?_;refine aB fun _ y=>aA rfl ?_;simp only[f8,f10,hg,RR,seval];refine aP fun b5 hn5=>?_;simp only[RR,seval];apply y;clear y;refine aA rfl ?_;simp only[f3,RR,seval];refine aN (hkd) ?_;simp only[z1,RR,seval];refine aA rfl ?_;simp only[f10,RR,seval]
   try rw[aQ _ (by omega)]
   refine hK0 _ _ hlt0 ⟨by first|rfl|(simp only[aJ,seval];rfl),x+dR e.kids,rfl,by omega⟩ (by repeat (first|exact ag0|refine bC.upd rfl ?_))
  have hkn0:k=l.length:=by have:=aF hc;omega
  clear hc;rw[hkn0,List.take_length]at hx;have hx:x=dR l:=by omega
  subst hx;refine bF ?_;simp only[RR,seval];refine aB fun _ y=>aA rfl ?_;simp only[f3,RR,seval];apply y;clear y;refine aO ?_;simp only[bB,aL,bH,RR,seval];refine aZ.pure ?_;rfl
theorem Ae (n:Nat): ∀l:List CS,dB l≤n→n≤1000000000→cJ cK 33 [.isl 6 (l.map CS.row)] (.int .i64 (dB l:Nat)):=by
 induction n using Nat.strongRecOn with
 |_ n ih=>
  intro l hn hb;have hl:=sN l;refine bI 29 [.tmp 2] Tryz.func33 rfl rfl rfl rfl ?_;refine aB fun _ y=>aA rfl ?_;simp only[RR,seval];apply y;clear y;refine aB fun _ y=>aA rfl ?_;simp only[aD,RR,seval];apply y;clear y;refine aI ?_;refine aB fun _ y=>aA rfl ?_;simp only[aD,RR,seval];apply y;clear y;refine bM fun F1 M1 hfr hH=>?_;have g2:=hfr 2;have g3:=hfr 3;have g8:=hfr 8;have g9:=hfr 9;have g10:=hfr 10
  try simp only[RR,seval]at g2 g3 g8 g9 g10
  have f2:=g2;clear g2;have f3:=g3;clear g3;have f8:=g8;clear g8;have f9:=g9;clear g9;have f10:=g10;clear g10;clear hfr hH;refine aM ?_;refine bZ [2,8,9] (l.length) (fun k fr M=>fr 10= .int .i64 (k:Nat)∧ ∃x:Nat,fr 3= .int .i64 (x:Nat)∧x+k=l.length+dB (l.take k)) ⟨f10,l.length,f3,by simp [dB]⟩ ?_;rintro k F2 M2 hk0 ⟨fx,⟨x,f3,hx⟩⟩ agx K0 hK0;have f2:=(agx 2 rfl).trans f2;have f8:=(agx 8 rfl).trans f8;have f9:=(agx 9 rfl).trans f9;have f10:=fx;clear fx;have ag0:=bC.refl [2,8,9] F2;clear agx;refine aB fun _ y=>aA rfl ?_;simp only[f9,f10,RR,seval];apply y;clear y;refine aI ?_;refine aH _ rfl (fun hc=>?_) (fun hc=>?_)
  ·have hlt0:k<l.length:=by have:=aC hc;omega
   clear hc;have hg0:=aG hlt0;have hm:=mT (bA hlt0);have hle:=Vc l (k+1);have ht:=Ok hg0;have hs:=(l[k]).sz_eq;have c1:=Ao (dR (l[k]).es) (l[k]).es (aY _) (by omega);have c2:=ih (dB (l[k]).thn) (by omega) (l[k]).thn (aY _) (by omega);have c3:=ih (dB (l[k]).els) (by omega) (l[k]).els (aY _) (by omega);have hg:=yF hg0;generalize l[k]=e at hg0 hm ht hs c1 c2 c3 hg;have z1:IntKind.wrap .i64 ((dR e.es:Nat)+(dB e.thn:Nat):Int)=((dR e.es+dB e.thn:Nat):Int):=by rw[aQ _ (by omega)];omega
   have z2:IntKind.wrap .i64 (((dR e.es+dB e.thn:Nat):Int)+(dB e.els:Nat))=((dR e.es+dB e.thn+dB e.els:Nat):Int):=by rw[aQ _ (by omega)];omega
   have z3:IntKind.wrap .i64 ((x:Int)+((dR e.es+dB e.thn+dB e.els:Nat):Int))=((x+(dR e.es+dB e.thn+dB e.els):Nat):Int):=by rw[aQ _ (by omega)];omega
   refine aK ?_;try simp only[RR]
   refine aI ?_;refine aM ?_;refine aB fun _ y=>aA rfl ?_;simp only[f8,f10,hg,RR,seval];refine aP fun b5 hn5=>?_;simp only[RR,seval];apply y;clear y;refine bJ (fun x=>x≠b5) [(0,3),(1,3),(2,1),(4,3),(5,0),(8,3),(9,0),(3,1),(6,1),(7,3),(10,1),(11,3),(12,3),(13,3)] [] dG (by kernel_rfl) rfl rfl ?_;simp only[cF,dM,f3,RR,seval];refine aN (c1) ?_;simp only[RR,seval];refine aN (c2) ?_;simp only[z1,RR,seval];refine aN (c3) ?_;simp only[z2,z3,RR,seval];refine aA rfl ?_;simp only[f10,RR,seval]
   try rw[aQ _ (by omega)]
   refine hK0 _ _ hlt0 ⟨by first|rfl|(simp only[aJ,seval];rfl),x+(dR e.es+dB e.thn+dB e.els),rfl,by omega⟩ (by repeat (first|exact ag0|refine bC.upd rfl ?_))
  have hkn0:k=l.length:=by have:=aF hc;omega
  clear hc;rw[hkn0,List.take_length]at hx;have hx:x=dB l:=by omega
  subst hx;refine bF ?_;simp only[RR,seval];refine aB fun _ y=>aA rfl ?_;simp only[f3,RR,seval];apply y;clear y;refine aO ?_;simp only[bB,aL,bH,RR,seval];refine aZ.pure ?_;rfl
end Go.Proofs.YtnfbbjhdflhmjaaGreatDoor
