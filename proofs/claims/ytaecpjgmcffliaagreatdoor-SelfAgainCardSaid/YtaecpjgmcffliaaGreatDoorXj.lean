/- Xj -/
import Derived.Test.YtaecpjgmcffliaaGreatDoorXg
import Derived.Test.YtaecpjgmcffliaaGreatDoorXh
import Derived.Test.YtaecpjgmcffliaaGreatDoorMje
import Derived.Test.YtaecpjgmcffliaaGreatDoorSy2
import Derived.Test.YtaecpjgmcffliaaGreatDoorAl3
set_option linter.unusedSimpArgs false
set_option linter.unusedVariables false
set_option maxRecDepth 10000
set_option maxHeartbeats 8000000
namespace Go.Al
def WV:Nat→Nat→Nat
 |0,n=>n+1
 |f+1,n=>if n<10 then 1 else WV f (n/10)+1
theorem NY (n:Nat):(Lib.decDigits n).length≤n+1:=by
 induction n using Nat.strongRecOn with
 |_ n ih=>
  rw[Lib.decDigits];split
  ·simp
  rename_i h;have:=ih (n/10) (by omega);rw[aB,bS];omega
theorem JW: ∀f n:Nat,(Lib.decDigits n).length≤WV f n
 |0,n=>NY n
 |f+1,n=>by
  rw[Lib.decDigits,WV];by_cases h:n<10
  ·rw[dif_pos h,bD h];simp
  rw[dif_neg h,aJ h,aB,bS];have:=JW f (n/10);omega
section
open Go.Lib
theorem Dw {P:Program} {W:World} {name:String} {k:IntKind} {zs:List Int} {g:Nat} {t e:TypeId} {n:Nat} (hg:P.globalNamed name=some g) (hty:(P.globals[g]?).map (·.type)=some t) (ht:P.underlying t=some (.array n e)) (he:P.underlying e=some (.int k)) (hce:P.cellsOf e=1) (hct:P.cellsOf t=n):
  ∀{l:List (String×DataW Unit)} {ps:List MemPlace},DataW.LaidVars P W l ps→(name,tabData k zs)∈l→W.var? P name=some (zs.map fun z=>Value.int k z).toArray
 |[],_,_,hm=>by cases hm
 |(nm,d)::rest,ps,h,hm=>by
  obtain⟨g',t',cs,fuel,p,q,hg',ht',hvar,hd,hrest,_⟩:=h;rcases bL.1 hm with hm|hm
  ·cases hm
   obtain rfl:=Option.some.inj (hg.symm.trans hg');obtain rfl:=Option.some.inj (hty.symm.trans ht');rw[hvar,←cells_of_tab ht he hce hct hd]
  exact Dw hg hty ht he hce hct hrest hm
def MO:DataW Unit→Value
 | .lit (.int k z)=> .int k z
 | .lit (.string s)=> .string ⟨s.toArray⟩
 |_=>Go.undef
def AK:DataW Unit→Array Value
 | .agg l=>(l.map MO).toArray
 |_=> #[]
end
end Go.Al
namespace Go.Proofs.YtaecpjgmcffliaaGreatDoor
open Go.Al Go.Proofs.Tryz
mutual
def lX:Ex→Nat
 | .mk k o n s l=>lE l+(if k=1 then WV 11 n.toNat+1 else if k=2 then s.length else 1)
def lE:List Ex→Nat
 |[]=>0
 |e::l=>lX e+lE l
end
mutual
theorem VL: ∀e:Ex,(fO e).length≤lX e
 | .mk k o n s l=>by
   have h:=IL l;have h2:=JW 11 n.toNat;have h3:((opS[(o- 4).toNat]?).toList).length≤1:=by cases opS[(o- 4).toNat]?<;>simp
   simp only[fO,lX,iR,aB];by_cases c1:k=1
   ·rw[bD c1,bD c1,aB,bS];omega
   rw[aJ c1,aJ c1];by_cases c2:k=2
   ·rw[bD c2,bD c2];omega
   rw[aJ c2,aJ c2]
   repeat' split
   all_goals first|(simp only[bS,aU];omega)|omega
theorem IL: ∀l:List Ex,(iJ l).length≤lE l
 |[]=>by simp [iJ,lE]
 |e::l=>by
  have h1:=VL e;have h2:=IL l;simp only[iJ,lE,aB];omega
end
mutual
def lM:Sm→Nat
 | .mk k s l t _=>lE l+(if k=1 then 1+s.length else if k=2∨k=3 then 1 else lB t+3)
def lB:List Sm→Nat
 |[]=>0
 |e::l=>lM e+lB l
end
mutual
theorem VM: ∀e:Sm,(oW e).length≤lM e
 | .mk k s l t u=>by
   have h:=IL l;have h2:=IM t;simp only[oW,lM];by_cases c1:k=1
   ·rw[bD c1,bD c1];simp only[aB,bS];omega
   rw[aJ c1,aJ c1];by_cases c2:k=2
   ·rw[bD c2,bD (.inl c2)];simp only[aB,bS];omega
   rw[aJ c2];by_cases c3:k=3
   ·rw[bD c3,bD (.inr c3)];simp only[aB,bS];omega
   rw[aJ c3,aJ (show ¬(k=2∨k=3)from by omega)]
   repeat' split
   all_goals first|(simp only[aB,bS];omega)|omega
theorem IM: ∀l:List Sm,(hJ l).length≤lB l
 |[]=>by simp [hJ,lB]
 |e::l=>by
  have h1:=VM e;have h2:=IM l;simp only[hJ,lB,aB];omega
end
theorem wB:(hJ gS).length+1≤2500:=by
 have h:=IM gS;have h2:lB gS+1≤2500:=aD (by kernel_rfl);omega
theorem Gk: ∀m∈gS,SS (fun c=>[c]∈eZ.vars) (eZ.arrs.length=1) 1 m:=by
 obtain⟨f,h1,h2⟩:=GQ Gl uI
 have :f=nX:=by
  have h3:[nX]=[f]:=h1;injection h3 with h3
  exact h3.symm
 subst this;exact h2
theorem GX:qX eZ nX:=by
 obtain⟨f,h⟩:=Hm uI
 have :f=nX:=by
  have h3:[nX]=[f]:=h.funs;injection h3 with h3
  exact h3.symm
 subst this;exact h
theorem Vk {V:UInt8→Prop} {A:Prop} {l:List Sm} (hs: ∀m∈l,SS V A 1 m) (hl:(hJ l++[36]).length≤2500):(∀w∈qU (pX 0 l++[36]),dR w∧sR w)∧(qU (pX 0 l++[36])).length=4 *((hJ l).length+1):=by
 have hl:(hJ l).length+1≤2500:=by rw[aB,bS]at hl;exact hl
 have hb:=LI (N:=2500) (l:=l) (q:=0) (d:=0) (fun m hm q hq=>⟨LG (by decide) (hs m hm) q 0 (by decide) hq,jL (hs m hm) q⟩) (by omega);have hw:=WP (N:=2500) (l:=l) (q:=0) (d:=0) (fun m hm q hq=>⟨YE (by decide) (hs m hm) q 0 (by decide) hq,LG (by decide) (hs m hm) q 0 (by decide) hq,jL (hs m hm) q⟩) (by omega);have hln:=qS (b:=0) fun x hx=>jL (hs x hx);refine⟨?_, ?_⟩
 ·have :Kw 0 (zl (0:Nat) 0) (pX 0 l++[36]):=by
   refine hw.app ?_;rw[hb];refine mX ?_;rw[(pJ (A:=1509949440) (X:=gB 26 0 0 0) (g:=2) (by decide) (by decide) (by decide) (by decide) (by decide) (by decide) (by decide) (by decide)).1];exact mG (by decide) (by decide) (pD (by decide) (by decide) (by decide))
  exact this
 unfold qU;rw[vX,aB,bS,hln]
theorem AQ (W:List Int) (a:Int) (k:W.length≤20000) (o:0≤a∧a≤1000000):eH dP 20 [.agg [.isl 1 (W.map gI), .int .i64 4224], .int .i64 a] (.int .i64 (8 *(a+1) *((W.length:Int)+4224+1))):=by
 have l:8 *(a+1) *((W.length:Int)+4224+1)≤8 *1000001 *30000:=Int.mul_le_mul (by omega) (by omega) (by omega) (by decide);have j:0≤8 *(a+1) *((W.length:Int)+4224+1):=Int.mul_nonneg (by omega) (by omega);have d:IntKind.wrap .i64 (a+1)=a+1:=aS _ (by omega);have e:IntKind.wrap .i64 (8 *(a+1))=8 *(a+1):=aS _ (by omega);have f:IntKind.wrap .i64 ((W.length:Int)+4224)=(W.length:Int)+4224:=aS _ (by omega);have g:IntKind.wrap .i64 ((W.length:Int)+4224+1)=(W.length:Int)+4224+1:=aS _ (by omega);have i:IntKind.wrap .i64 (8 *(a+1) *((W.length:Int)+4224+1))=8 *(a+1) *((W.length:Int)+4224+1):=aS _ (by omega);refine bY 16 [.tmp 4] func20 ?_;refine aA fun K b=>?_;simp only[RR,seval];refine aN fun c n=>?_;simp only[RR,seval];refine b _ _ (aA fun K b=>?_);simp only[*,aG,RR,seval];apply b;refine aP ?_;simp only[aY,aK,bR,RR,seval];refine aZ.pure ?_;rfl
theorem Ui {V:UInt8→Prop} {A:Prop} {l:List Sm} (G: ∀m∈l,SS V A 1 m) (y:(hJ l++[36]).length≤2500):eH dP 17 [.str (hJ l++[36])] (.tup [.agg [.isl 1 ((qU (pX 0 l++[36])).map gI), .int .i64 4224], .str (vN (Ya (pX 0 l++[36]))), .bool true]):=by
 obtain⟨n,t,F,ht⟩:=Ww G y (100 *(((hJ l++[36]).length:Int)+100)) (by omega);have p:=LC eZ (GN zW uH) (fun j g v u Q=>D3 zW uH j g v u Q) (fun g v=>D4 uH g v) (hJ l++[36]) (by omega) (100 *(((hJ l++[36]).length:Int)+100)) ⟨by omega,by omega⟩ F;obtain⟨H,I⟩:=Vk G y;have C:(qU (pX 0 l++[36])).length≤16384:=by rw[I];rw[aB,bS]at y;omega
 have z:=KZ (qU (pX 0 l++[36])) C (fun w R=>(H w R).1)
 have D:Ya (pX 0 l++[36])=[1145390419,((qU (pX 0 l++[36])).length:Int),4224]++qU (pX 0 l++[36]):=by
  unfold Ya qU;rw[vX];simp
 rw[←D]at z;have B:=P0;unfold UX at p;have P:eZ.av= .agg [.isl 1 (eZ.vars.map bM), .isl 2 (eZ.arrs.map Ar.row), .isl 5 (eZ.funs.map Fu.row)]:=rfl;rw[P]at p B;generalize eZ.vars.map bM=q1 at *;generalize eZ.arrs.map Ar.row=q2 at *;generalize eZ.funs.map Fu.row=q3 at *;generalize hJ l++[36]=s at *;generalize vN (Ya (pX 0 l++[36]))=S at *;generalize(qU (pX 0 l++[36])).map gI=wr at *;clear F H I C D;have L:IntKind.wrap .i64 ((s.length:Int)+100)=(s.length:Int)+100:=aS _ (by omega);have N:IntKind.wrap .i64 (100 *((s.length:Int)+100))=100 *((s.length:Int)+100):=aS _ (by omega);refine bY 40 [.cell 2 36, .tmp 3, .tmp 4] func17 ?_;refine aA fun K a=>?_;simp only[RR,seval];refine aN fun c a4=>?_;simp only[RR,seval];refine a _ _ (aA fun K a=>?_);simp only[RR,seval];refine aO (B) ?_;simp only[RR,seval];refine aN fun d E=>?_;have U:d≠c:=fun e=>by rw[e]at E;simp only[RR,seval,reduceCtorEq]at E
 have J:=U.symm;simp only[RR,seval];refine a _ _ (aI (aA fun K a=>?_));simp only[RR,seval];refine a _ _ (bI ?_);refine aL ?_;simp only[RR];refine aA fun K a=>?_;simp only[L,N,RR,seval];refine aO (p) ?_;simp only[RR,seval];refine aN fun f k=>?_;have X:f≠c:=fun e=>by rw[e]at k;simp only[J,RR,seval,reduceCtorEq]at k
 have T:=X.symm;have Y:f≠d:=fun e=>by rw[e]at k;simp only[RR,seval,reduceCtorEq]at k
 have W:=Y.symm;simp only[RR,seval];refine a _ _ (aA fun K a=>?_);simp only[RR,seval];refine aO (z) ?_;simp only[RR,seval];refine aN fun i b=>?_;have Z:i≠c:=fun e=>by rw[e]at b;simp only[J,T,RR,seval,reduceCtorEq]at b
 have a5:=Z.symm;have a0:i≠d:=fun e=>by rw[e]at b;simp only[W,RR,seval,reduceCtorEq]at b
 have a6:=a0.symm;have a1:i≠f:=fun e=>by rw[e]at b;simp only[RR,seval,reduceCtorEq]at b
 have a7:=a1.symm;simp only[RR,seval];refine a _ _ (aC fun K a=>?_);refine gP (fun o M=>o 2= .ptr 2 c 0 0∧o 3= .str S∧o 4= .bool true∧M c=some (.rows 2 [[.isl 1 wr, .int .i64 4224]])) (fun a2 O=>?_) ?_
 ·refine lR (fun x=>x≠d∧x≠f∧x≠i) eE (by kernel_rfl) fun hd=>?_
  refine hQ [(0,1),(1,3),(2,0),(3,3),(4,1),(5,3),(6,3),(7,3),(8,3),(9,3),(10,1),(11,3),(12,3)] hd (m:=0) rfl (by kernel_rfl) rfl rfl ?_;simp only[*,dL,fW,RR,seval];refine jG (by kernel_rfl) ?_;simp only[RR,seval];refine O _ _ ⟨?_, ?_, ?_, ?_⟩<;>first|rfl|(simp only[aT,seval];done)
 rintro F1 M1 ⟨f2,f3,f4,a3⟩;simp only[iM];apply a;refine aP ?_;simp only[*,aY,aK,bR,RR,seval];refine aZ.pure ?_;rfl
theorem LW:BR eZ=(hJ gS++[36],0):=by
 unfold BR;rw[bD uI];rfl
theorem Nj:eH dP 13 [eZ.av] (.tup [.str (hJ gS++[36]), .int .i64 0]):=by
 have h:=Z6 eZ Gl (fun _=>zW) (fun f a _=>by
  simp only[eZ,bE]at a;subst a;have:=wB;show(hJ gS).length≤_
  omega)
 rw[LW]at h;exact h
theorem Oa:eH dP 6 [] (.bool true):=by
 have U:=BA;have F:=P0;have L:=Nj;have B:(hJ gS++[36]).length≤2500:=by rw[aB,bS];exact wB
 have V:=Ui Gk B;obtain⟨n,t,H,Z⟩:=Ww Gk B (100 *(((hJ gS++[36]).length:Int)+100)) (by omega);obtain⟨k,j,z,o,Y,_⟩:=NA GX Gk wB (hJ gS++[36]) _ H (by decide);have z:k+1≤4 *((hJ gS).length+1) *(t+1):=z;have o:Fin (qU (pX 0 gS++[36])) (hJ gS++[36]) k A8 1 j:=o;obtain⟨I,J⟩:=Vk Gk B;have y:(qU (pX 0 gS++[36])).length≤20000:=by rw[J];have:=wB;omega
 have E:=AQ (qU (pX 0 gS++[36])) (100 *(((hJ gS++[36]).length:Int)+100)) y (by omega)
 have A:(k:Int)+2≤8 *(100 *(((hJ gS++[36]).length:Int)+100)+1) *(((qU (pX 0 gS++[36])).length:Int)+4224+1)∧k≤1000000000000:=by
  have h1:4 *((hJ gS).length+1) *(t+1)≤10000 *(t+1):=gN _ (by have:=wB;omega);generalize 4 *((hJ gS).length+1) *(t+1)=m1 at *;have h2:(8 *(100 *(((hJ gS++[36]).length:Int)+100)+1)) *4225≤8 *(100 *(((hJ gS++[36]).length:Int)+100)+1) *(((qU (pX 0 gS++[36])).length:Int)+4224+1):=Int.mul_le_mul_of_nonneg_left (by omega) (by omega);generalize 8 *(100 *(((hJ gS++[36]).length:Int)+100)+1) *(((qU (pX 0 gS++[36])).length:Int)+4224+1)=m2 at *;omega
 have l:eH dP 19 [.agg [.isl 1 ((qU (pX 0 gS++[36])).map gI), .int .i64 4224], .str (hJ gS++[36]), .int .i64 (8 *(100 *(((hJ gS++[36]).length:Int)+100)+1) *(((qU (pX 0 gS++[36])).length:Int)+4224+1))] (.agg [.int .i64 1, .str j.out, .int .i64 j.st]):=
  BH (qU (pX 0 gS++[36])) (hJ gS++[36]) 4224 _ k 1 j rfl y I (by omega) o (by decide) A.2 A.1
 rw[Y]at l;have W:eZ.av= .agg [.isl 1 (eZ.vars.map bM), .isl 2 (eZ.arrs.map Ar.row), .isl 5 (eZ.funs.map Fu.row)]:=rfl;rw[W]at L F;generalize eZ.vars.map bM=q1 at *;generalize eZ.arrs.map Ar.row=q2 at *;generalize eZ.funs.map Fu.row=q3 at *;generalize 8 *(100 *(((hJ gS++[36]).length:Int)+100)+1) *(((qU (pX 0 gS++[36])).length:Int)+4224+1)=bd at *;generalize vN (Ya (pX 0 gS++[36]))=p at *;generalize(qU (pX 0 gS++[36])).map gI=wr at *;clear H o I J y z A Z;generalize hJ gS++[36]=u at *;generalize j.st=a0 at *;have Q:IntKind.wrap .i64 ((u.length:Int)+100)=(u.length:Int)+100:=aS _ (by omega);have R:IntKind.wrap .i64 (100 *((u.length:Int)+100))=100 *((u.length:Int)+100):=aS _ (by omega);have z1:decide (p=p)=true:=cR rfl;refine bY 49 [.tmp 0] func6 ?_;refine aA fun K b=>?_;simp only[RR,seval];refine b _ _ (aA fun K b=>?_);simp only[RR,seval];refine aO (F) ?_;simp only[RR,seval];refine aN fun g a2=>?_;simp only[RR,seval];refine b _ _ (aI (aA fun K b=>?_));simp only[RR,seval];refine b _ _ (bI ?_);refine aL ?_;simp only[RR];refine aA fun K b=>?_;simp only[RR,seval];refine aO (L) ?_;simp only[RR,seval];refine b _ _ (aA fun K b=>?_);simp only[RR,seval];refine aO (V) ?_;simp only[RR,seval];refine aN fun i G=>?_;have O:i≠g:=fun e=>by rw[e]at G;simp only[RR,seval,reduceCtorEq]at G
 have C:=O.symm;simp only[RR,seval];refine b _ _ (aI (aA fun K b=>?_));simp only[RR,seval];refine b _ _ (bI ?_);refine aL ?_;simp only[RR];refine aC fun K b=>?_;refine gP (fun D M=>D 6= .str p∧ ∃a,D 8= .ptr 3 a 0 0∧M a=some (.rows 3 [[.int .i64 1, .str p, .int .i64 a0]])) (fun a1 v=>?_) ?_
 ·refine lR (fun x=>x≠g∧x≠i) eE (by kernel_rfl) fun hd=>?_
  refine hQ [(0,0),(1,3),(2,0),(3,3),(4,3),(5,3),(6,3)] hd (m:=4) rfl (by kernel_rfl) rfl rfl ?_;simp only[dL,fW,O,Q,R,RR,seval];refine lG hd (by kernel_rfl:Region.ready .any _ _=[7,9]) (by simp) ⟨?_, ?_,trivial⟩
  ·simp only[RR,seval]
   refine aO (E) ?_;simp only[RR,seval];refine lG hd (by kernel_rfl:Region.ready .any _ _=[8,9]) (by simp) ⟨?_, ?_,trivial⟩
   ·simp only[RR,seval]
    refine aO (l) ?_;simp only[RR,seval];refine hQ [(9,1),(10,1)] hd (m:=0) rfl (by kernel_rfl) rfl rfl ?_;simp only[dL,RR,seval];refine aN fun a c=>?_;have d:a≠g:=fun e=>by rw[e]at c;simp only[C,RR,seval,reduceCtorEq]at c
    have N:=d.symm;have f:a≠i:=fun e=>by rw[e]at c;simp only[RR,seval,reduceCtorEq]at c
    have P:=f.symm;simp only[d,f,RR,seval];refine jG (by kernel_rfl) ?_;simp only[RR,seval];refine v _ _ ⟨?_,a, ?_, ?_⟩<;>first|rfl|(simp only[aT,seval];done)
   simp only[RR,seval];refine aN fun a c=>?_;have d:a≠g:=fun e=>by rw[e]at c;simp only[C,RR,seval,reduceCtorEq]at c
   have N:=d.symm;have f:a≠i:=fun e=>by rw[e]at c;simp only[RR,seval,reduceCtorEq]at c
   have P:=f.symm;simp only[RR,seval];refine hQ [(8,1),(10,1)] hd (m:=0) rfl (by kernel_rfl) rfl rfl ?_;simp only[dL,RR,seval];refine aO (l) ?_;simp only[d,f,RR,seval];refine jG (by kernel_rfl) ?_;simp only[RR,seval];refine v _ _ ⟨?_,a, ?_, ?_⟩<;>first|rfl|(simp only[aT,seval];done)
  simp only[RR,seval];refine aN fun a c=>?_;have d:a≠g:=fun e=>by rw[e]at c;simp only[C,RR,seval,reduceCtorEq]at c
  have N:=d.symm;have f:a≠i:=fun e=>by rw[e]at c;simp only[RR,seval,reduceCtorEq]at c
  have P:=f.symm;simp only[RR,seval];refine hQ [(7,1),(8,1),(10,1)] hd (m:=0) rfl (by kernel_rfl) rfl rfl ?_;simp only[dL,RR,seval];refine aO (E) ?_;simp only[RR,seval];refine aO (l) ?_;simp only[d,f,RR,seval];refine jG (by kernel_rfl) ?_;simp only[RR,seval];refine v _ _ ⟨?_,a, ?_, ?_⟩<;>first|rfl|(simp only[aT,seval];done)
 rintro F1 M1 ⟨S,a,T,X⟩;simp only[iM];refine b _ _ (aA fun K b=>?_);simp only[RR,seval];refine aO (U) ?_;simp only[S,T,X,RR,seval];apply b;refine aP ?_;simp only[aY,aK,bR,RR,seval];refine aZ.pure ?_;rfl
section
open Go.Al Go.Lib
theorem G8:Tryz.prog.globalNamed "seedcorn/token.words" =some 0:=by kernel_rfl
theorem NI:(Tryz.prog.globals[0]?).map (·.type)=some 327:=by kernel_rfl
theorem SH:Tryz.prog.globalNamed "internal/strconv.uint64pow10" =some 1:=by kernel_rfl
theorem VW:(Tryz.prog.globals[1]?).map (·.type)=some 353:=by kernel_rfl
theorem YG:Tryz.prog.underlying 327=some (.array 10 9):=by kernel_rfl
theorem YF:Tryz.prog.underlying 353=some (.array 20 172):=by kernel_rfl
theorem UF:Tryz.prog.underlying 9=some .string:=by kernel_rfl
theorem XC:Tryz.prog.underlying 172=some (.int .u64):=by kernel_rfl
theorem XT:Tryz.prog.cellsOf 9=1:=by kernel_rfl
theorem XS:Tryz.prog.cellsOf 172=1:=by kernel_rfl
theorem WW:Tryz.prog.cellsOf 327=10:=by kernel_rfl
theorem YM:Tryz.prog.cellsOf 353=20:=by kernel_rfl
theorem Ph {S:gH} {w:World} {b:Nat} {α:Type} (fv:α→Value) (fa:α→AV) (hv: ∀a,cI S w (fa a) (fv a)): ∀(ws:List α) (off:Nat),(∀(i:Nat) s,ws[i]?=some s→w.cell? ⟨b,off+i,none⟩=some (fv s))→eW S w b off (ws.map fa)
 |[],_,_=>by simp only[dI,eW]
 |s::ws,off,h=>by
  simp only[cU,eW];refine⟨⟨_,by simpa using h 0 s rfl,hv s⟩,Ph fv fa hv ws (off+1) fun i s' hs=>?_⟩;rw[show off+1+i=off+(i+1)by omega];exact h (i+1) s' (by simpa using hs)
def VB:List Int:=[1,10,100,1000,10000,100000,1000000,10000000,100000000,1000000000,10000000000,100000000000,1000000000000,10000000000000,100000000000000,1000000000000000,10000000000000000,100000000000000000,1000000000000000000,10000000000000000000]
theorem D1 {W:World} (hL:laidMet Tryz.prog [("math/bits.deBruijn32tab",Rows.laid_math_bits_deBruijn32tab),("math/bits.deBruijn64tab",Rows.laid_math_bits_deBruijn64tab),("internal/strconv.uint64pow10",Rows.laid_internal_strconv_uint64pow10),("seedcorn/token.words",Rows.laid_seedcorn_token_words)] W):St dP ⟨W,JV pZ,old W,[],fun _=>Go.undef⟩ (old W) pZ W:=by
 obtain⟨ps,hv,_⟩:=hL;have v1:W.var? Tryz.prog "seedcorn/token.words" =some (kD.map fun s=>Value.string ⟨s.toArray⟩).toArray:=zR G8 NI YG UF XT WW hv (by simp only[bL];right;right;right;left;rfl)
 have v3:W.var? Tryz.prog "internal/strconv.uint64pow10" =some (VB.map fun z=>Value.int .u64 z).toArray:=Dw SH VW YF XC XS YM hv (by simp only[bL];right;right;left;rfl)
 have lt: ∀{n:String} {g:Nat} {cs:Array Value},Tryz.prog.globalNamed n=some g→W.var? Tryz.prog n=some cs→g<W.heap.size:=fun {n g cs} hg h=>by
  simp only[World.var?,hg,cA]at h;split at h
  ·rename_i e;exact(fA.1 e).1
  cases h
 refine⟨fun k hk=>hk,fun _ h=>h,fun k hk=> .inl hk,fun b o h=>(by cases h),oH.refl _ _,fun g row h=>?_⟩
 have key: ∀{α:Type} (fv:α→Value) (fa:α→AV),(∀a,cI (old W) W (fa a) (fv a))→ ∀{n:String} {g:Nat} {ws:List α},Tryz.prog.globalNamed n=some g→W.var? Tryz.prog n=some (ws.map fv).toArray→eW (old W) W g 0 (ws.map fa):=fun {α} fv fa hva {n g ws} hg h=>
  Ph fv fa hva ws 0 fun i s hs=>by
   rw[World.var?_cell hg h];simp [hs]
 have ks: ∀{n:String} {g:Nat} {ws:List (List UInt8)},Tryz.prog.globalNamed n=some g→W.var? Tryz.prog n=some (ws.map fun s=>Value.string ⟨s.toArray⟩).toArray→eW (old W) W g 0 (ws.map .str):=fun {n g ws} hg h=>key (fun s:List UInt8=>Value.string ⟨s.toArray⟩) AV.str (fun a=>by simp only[cI]) hg h;simp only[SO,JB]at h;split at h
 ·cases h;exact⟨lt G8 v1,ks G8 v1⟩
 ·cases h;exact⟨lt SH v3,key (fun z:Int=>Value.int .u64 z) (AV.int .u64) (fun a=>by simp only[cI]) (ws:=VB) SH v3⟩
 cases h
def zV (d:DataW Unit):Obj→Obj
 | .cells _ t frozen=> .cells (AK d) t frozen
 |o=>o
noncomputable def IK (h:Array Obj):Array Obj:=
 (((h.modify 2 (zV Rows.laid_math_bits_deBruijn32tab)).modify 3 (zV Rows.laid_math_bits_deBruijn64tab)).modify 1 (zV Rows.laid_internal_strconv_uint64pow10)).modify 0 (zV Rows.laid_seedcorn_token_words)
end
end Go.Proofs.YtaecpjgmcffliaaGreatDoor
