/- Xe -/
import Derived.Test.YtaecpjgmcffliaaGreatDoorMx
import Derived.Test.YtaecpjgmcffliaaGreatDoorQd
import Derived.Test.YtaecpjgmcffliaaGreatDoorSc1
import Derived.Test.YtaecpjgmcffliaaGreatDoorAl3
import Derived.Test.YtaecpjgmcffliaaGreatDoorRows
import Derived.Test.YtaecpjgmcffliaaGreatDoorJf
set_option linter.unusedSimpArgs false
set_option linter.unusedVariables false
set_option maxRecDepth 10000
set_option maxHeartbeats 16000000
namespace Go.Al
theorem Qs {a b:Type} (W:List a) (f:a→b) (z:b) {k:Nat} {x:a} (h:W[k]?=some x):((W.take k).map f++List.replicate (W.length-k) z)[k]?=some z:=by
 have d:=(bD.1 h).1;have c:((W.take k).map f).length=k:=by simp;omega
 rw[gC (by omega),c,Gm,rC,bF (by omega)]
theorem Qr {a b:Type} (W:List a) (f:a→b) (z:b) {k:Nat} {x:a} {y:b} (h:W[k]?=some x) (e:f x=y):((W.take k).map f++List.replicate (W.length-k) z).set k y=(W.take (k+1)).map f++List.replicate (W.length-(k+1)) z:=by
 have g:=(bD.1 h).1;have c:((W.take k).map f).length=k:=by simp;omega
 have d:W.length-k=(W.length-(k+1))+1:=by omega
 rw[d,List.replicate_succ,List.set_append_right _ _ (by omega),c,Gm,sI,List.take_add_one,h,cP];simp [e]
theorem I5 {a:Type} (W:List a) (b sz:Nat) (l:List (List AV)):(W.map fun _=>[AV.bool true]).map (fun x=>x.map (frz b sz l))=W.map fun _=>[AV.bool true]:=by
 rw[List.map_map];rfl
def O1 (s:Mc) (vm:AV) (e:Int):List AV:=[.int .i64 s.pc, .int .u32 0, .int .u32 s.r1, .int .u32 s.r2, .int .u32 0, .int .u32 0, .int .u32 0, .int .u32 0, .int .u32 0, .int .u32 0, .int .u32 0, .int .u32 0, .int .u32 0, .int .u32 0, .int .u32 0, .int .u32 0, .int .u32 0,vm, .int .i64 s.rd, .str s.out, .int .i64 s.st, .int .i64 e]
theorem MV:E5.mem.map gI=List.replicate 4224 [AV.int .u32 0]:=List.map_replicate
theorem MW:E5.mem.length=4224:=fG
theorem WI: ∀x∈E5.mem,dQ x:=fun x a=>by
 rw[PC a];exact⟨by decide,by decide⟩
theorem KU {E:kB} {F:Nat→Prop} {j:List (Option Nat)} {Q:fF} {d:Option Nat} {n:List Oper} {fr:Fr} {H:Hp} {g:FuncId} {i:List AV} {R:sJ→Prop} (p:pP E g i oN (fun c _=>R c)) (u: ∀v, ¬R (.pan v))
  (h: ∀v a,R (.ret v)→(∀b o,H b=some o→a b=some o)→eC E F j Q n (fH fr d v) a):pC E F j Q d n fr H g i:=by
 refine kW p (gK.refl _) (fun b o h=>by cases h) (fun b f=>absurd rfl f) fun c a k f=>?_
 cases c with
 |pan v=>exact absurd k (u v)
 |ret v=>
  refine h v _ k fun b o l=>?_
  have t:a b=none:=by
   cases e:a b with
   |none=>rfl
   |some o'=>
    rcases f b (by rw[e];exact bY _)with h|h
    ·exact absurd rfl h
    rw[l]at h;cases h
  unfold kT;rw[t];simp [oN,l]
theorem jU.seal {W:List Int} {inp:dE} {r g u:Nat} {vo:AV} {s:Mc} {v:Int} {H:Hp} {E:kB} {N:Nat} {Q:fF} {c:Code} {fr:Fr} (f:jU W inp r g u vo s v H)
  (h: ∀D A,(∀j,tR (fr j)=true→D j=fr j)→A r=some (.rows 28 [[.int .i64 s.pc, .int .u32 0, .int .u32 s.r1, .int .u32 s.r2, .int .u32 0, .int .u32 0, .int .u32 0, .int .u32 0, .int .u32 0, .int .u32 0, .int .u32 0, .int .u32 0, .int .u32 0, .int .u32 0, .int .u32 0, .int .u32 0, .int .u32 0, .isl 1 (s.mem.map gI), .int .i64 s.rd, .str [], .int .i64 s.st, .int .i64 v, .isl 1 (s.out.map rJ), .isl 4 (W.map yD), .isl 1 (W.map fun _=>[.bool true]), .isl 1 (W.map gI), .str inp, .osl 1 u W.length]])→
   (∀b d l,b≠r→b≠g→off vo b→(∀r∈l, ∀x∈r,tR x=true)→H b=some (.rows d l)→A b=some (.rows d l))→mB E N c Q D A):mB E N c Q fr H:=by
 have L:H r=some (.rows 28 [[AV.int .i64 s.pc, .int .u32 0, .int .u32 s.r1, .int .u32 s.r2, .int .u32 0, .int .u32 0, .int .u32 0, .int .u32 0, .int .u32 0, .int .u32 0, .int .u32 0, .int .u32 0, .int .u32 0, .int .u32 0, .int .u32 0, .int .u32 0, .int .u32 0]++AV.osl 1 g 4224::[.int .i64 s.rd, .str [], .int .i64 s.st, .int .i64 v,vo, .isl 4 (W.map yD), .isl 1 (W.map fun _=>[.bool true]), .isl 1 (W.map gI), .str inp, .osl 1 u W.length]]):=f.r;have S:(s.mem.map gI).length=4224:=by rw[aF];exact f.ml
 have V:dZ 1 (.osl 1 g 4224) (s.mem.map gI) H:= .inr ⟨g,by rw[S],f.m⟩;have T:=f.nmr;have k: ∀b,b≠g→off (.osl 1 g 4224) b:=fun b k sz n e=>by cases e;exact k rfl
 refine iE V L (fun x a=>?_) (fun x a=>?_) (k r (Ne.symm T)) fun Y H1 O P R=>?_
 ·simp only[bJ,bL,dD]at a
  rcases a with rfl|rfl|rfl|rfl|rfl|rfl|rfl|rfl|rfl|rfl|rfl|rfl|rfl|rfl|rfl|rfl|rfl<;>exact bS rfl
 ·simp only[bJ,bL,dD]at a
  rcases a with rfl|rfl|rfl|rfl|rfl|rfl|rfl|rfl|rfl|rfl
  ·exact bS rfl
  ·exact bS rfl
  ·exact bS rfl
  ·exact bS rfl
  ·exact fun d b n e=>k b fun p=>f.om d n (by rw[e,p])
  ·exact bS rfl
  ·exact bS rfl
  ·exact bS rfl
  ·exact bS rfl
  exact fun d b n e=>by cases e;exact k _ (Ne.symm f.mc)
 have G: ∀b d l,b≠r→b≠g→(∀r∈l, ∀x∈r,tR x=true)→H b=some (.rows d l)→H1 b=some (.rows d l):=fun b d l y B C z=>R b d l y (k b B) (fun r t x a=>bS (C r t x a)) z
 have U:dZ 1 vo (s.out.map rJ) H1:=by
  rcases f.o with⟨i,p⟩|⟨b,i,p⟩
  ·exact .inl ⟨i,p⟩
  refine .inr ⟨b,i,G b _ _ (fun e=>f.or _ _ (by rw[i,e])) (fun e=>f.om _ _ (by rw[i,e])) (fun r t x a=>?_) p⟩;obtain⟨c,_,rfl⟩:=lI.1 t;simp only[rJ,bE]at a;subst a;rfl
 have M:H1 r=some (.rows 28 [[AV.int .i64 s.pc, .int .u32 0, .int .u32 s.r1, .int .u32 s.r2, .int .u32 0, .int .u32 0, .int .u32 0, .int .u32 0, .int .u32 0, .int .u32 0, .int .u32 0, .int .u32 0, .int .u32 0, .int .u32 0, .int .u32 0, .int .u32 0, .int .u32 0, .isl 1 (s.mem.map gI), .int .i64 s.rd, .str [], .int .i64 s.st, .int .i64 v]++vo::[.isl 4 (W.map yD), .isl 1 (W.map fun _=>[.bool true]), .isl 1 (W.map gI), .str inp, .osl 1 u W.length]]):=P;refine iE U M (fun x a=>?_) (fun x a=>?_) f.or fun J I k1 X k3=>?_
 ·simp only[bJ,bL,dD]at a
  rcases a with rfl|rfl|rfl|rfl|rfl|rfl|rfl|rfl|rfl|rfl|rfl|rfl|rfl|rfl|rfl|rfl|rfl|rfl|rfl|rfl|rfl|rfl<;>exact bS rfl
 ·simp only[bJ,bL,dD]at a
  rcases a with rfl|rfl|rfl|rfl|rfl
  ·exact bS rfl
  ·exact bS rfl
  ·exact bS rfl
  ·exact bS rfl
  exact fun d b n e=>by cases e;exact f.oc
 refine h J I (fun j F=>?_) X fun b d l y B C z K=>k3 b d l y C (fun r t x a=>bS (z r t x a)) (G b d l y B z K);have i:=O j (bS F);rw[k1 j (by rw[i];exact bS F),i]
theorem qZ: ∀{L:List Int} {i:Nat} {x:Int},L[i]?=some x→ ∀j,j<4→(uZ L)[4 *i+j]?=(UA x)[j]?
 |[],i,x,h,_,_=>by simp at h
 |y::L,0,x,h,j,hj=>by
  simp only[dJ,Option.some.injEq]at h;subst h;rw[Nat.mul_zero,cD];show(UA y++uZ L)[j]?=_;rw[fC (by show j<4;exact hj)]
 |y::L,i+1,x,h,j,hj=>by
  rw[fB]at h;show(UA y++uZ L)[4 *(i+1)+j]?=_;have a:(UA y).length=4:=rfl;rw[gC (by rw[a];omega),a,show 4 *(i+1)+j- 4=4 *i+j by omega];exact qZ h j hj
theorem Rw (x:Int):(((UInt8.ofNat (x % 256).toNat).toNat:Nat):Int)=x % 256:=by
 rw[UInt8.toNat_ofNat'];omega
instance opK_dec (o:Int):Decidable (QS o):=by unfold QS;infer_instance
def QT (w:Int):Prop:=dQ w∧sU w
theorem pL {o a b c:Int} (j:(0≤o∧o≤200)∧(0≤a∧a≤15)∧(0≤b∧b≤15)∧(0≤c∧c≤65535)) (i:QS o) (h:AC o a b c=true):QT (gB o a b c):=by
 have d:gB o a b c/16777216=o:=by simp only[gB];omega
 have e:gB o a b c/1048576 % 16=a:=by simp only[gB];omega
 have f:gB o a b c/65536 % 16=b:=by simp only[gB];omega
 have g:gB o a b c % 65536=c:=by simp only[gB];omega
 unfold QT sU;rw[d,e,f,g];exact⟨⟨by simp only[gB];omega,by simp only[gB];omega⟩,i,h⟩
theorem wB {o a b c:Int} (d:(0≤o∧o≤200)∧(0≤a∧a≤15)∧(0≤b∧b≤15)) (k:QS o) (h:(vV (vQ (rK o) 97) a 15&&vV (vQ (rK o) 98) b 15&&vQ (rK o) 99&& !vQ (rK o) 114)=true) (e:0≤c∧c≤65535):QT (gB o a b c):=by
 refine pL ⟨d.1,d.2.1,d.2.2,e⟩ k ?_;simp only[aV,eI]at h;obtain⟨⟨⟨f,g⟩,i⟩,j⟩:=h;unfold AC;rw[f,g,i,j];simp [vV,e]
theorem lU {d X e:Int} (hd:0≤d∧d≤200) (c: -1≤e∧e≤200) (b:QT X): ∀w∈zM d X e,QT w:=fun w a=>by
 simp only[zM,bJ,bL,dD]at a;rcases a with rfl|rfl|rfl|rfl
 ·exact wB (by decide) (by decide) (by decide) (by omega)
 ·exact wB (by decide) (by decide) (by decide) (by omega)
 ·exact b
 exact wB (by decide) (by decide) (by decide) (by omega)
theorem SU {o:Int} (h:4≤o∧o≤15):QT (gB o 1 1 2):=by
 have :o=4∨o=5∨o=6∨o=7∨o=8∨o=9∨o=10∨o=11∨o=12∨o=13∨o=14∨o=15:=by omega
 rcases this with rfl|rfl|rfl|rfl|rfl|rfl|rfl|rfl|rfl|rfl|rfl|rfl<;>exact pL (by decide) (by decide) (by decide)
def Kw (q:Nat) (z:Zs) (A:List Int):Prop:= ∀w∈(iK A q z).2,QT w
theorem Kw.app {q:Nat} {z:Zs} {A B:List Int} (b:Kw q z A) (c:Kw (q+A.length) (iK A q z).1 B):Kw q z (A++B):=fun w a=>by
 rw[zU]at a;rcases eV.1 a with h|h
 ·exact b w h
 exact c w h
def kE:List Ex→Nat
 |[]=>0
 |e::l=>pB e.kids+kE l
def kS:List Sm→Nat
 |[]=>0
 |e::l=>pB e.es+lQ e.thn+lQ e.els+kS l
theorem QX: ∀l:List Ex,pB l=l.length+kE l
 |[]=>rfl
 |e::l=>by have:=QX l;have:=e.sz_eq;simp only[pB,kE,aJ];omega
theorem QW: ∀l:List Sm,lQ l=l.length+kS l
 |[]=>rfl
 |e::l=>by have:=QW l;have:=e.sz_eq;simp only[lQ,kS,aJ];omega
theorem Tn (e:Ex): ∀l:List Ex,kE (l++[e])=kE l+pB e.kids
 |[]=>by simp [kE]
 |x::l=>by simp only[cU,kE,Tn e l];omega
theorem Tm (e:Sm): ∀l:List Sm,kS (l++[e])=kS l+(pB e.es+lQ e.thn+lQ e.els)
 |[]=>by simp [kS]
 |x::l=>by simp only[cU,kS,Tm e l];omega
theorem Q5: ∀(l:List Ex) (k:Nat),kE (l.take k)≤kE l
 |[],k=>by simp
 |x::l,0=>by simp [kE]
 |x::l,k+1=>by have:=Q5 l k;simp only[gV,kE];omega
theorem Q3: ∀(l:List Sm) (k:Nat),kS (l.take k)≤kS l
 |[],k=>by simp
 |x::l,0=>by simp [kS]
 |x::l,k+1=>by have:=Q3 l k;simp only[gV,kS];omega
def I4 (f:Fu):Nat:=f.params.length+f.locs.length+lQ f.body
def zA:List Fu→Nat
 |[]=>0
 |f::l=>I4 f+zA l
theorem Ov (f:Fu): ∀l:List Fu,zA (l++[f])=zA l+I4 f
 |[]=>by simp [zA]
 |x::l=>by simp only[cU,zA,Ov f l];omega
theorem N9 (B:Nat): ∀l:List Fu,(∀f∈l,I4 f≤B)→zA l≤l.length *B
 |[],_=>by simp [zA]
 |x::l,h=>by
  have:=N9 B l fun f a=>h f (eR _ a);have:=h x (dN);simp only[zA,aJ,Nat.succ_mul];omega
def Ia (p:Pg):Nat:=p.vars.length+p.arrs.length+p.funs.length+zA p.funs
theorem qY {a b:Nat} (h:a+b≤9223372036854775807):IntKind.wrap .i64 ((a:Int)+(b:Int))=((a+b:Nat):Int):=by rw[aU _ (by omega)];omega
theorem AS {n:Int} (h:dQ n):(Lib.decDigits n.toNat).length≤11:=by
 have b: ∀(k:Nat) (m:Nat),m<10^(k+1)→(Lib.decDigits m).length≤k+1:=by
  intro k
  induction k with
  |zero=>intro m a;rw[Lib.decDigits,dif_pos (by omega)];simp
  |succ k ih=>
   intro m a;rw[Lib.decDigits];split
   ·simp
   have:=ih (m/10) (by rw[mU]at a;omega);simp only[aB,aJ,aT];omega
 have:=b 9 n.toNat (by have:=h.2;have:=h.1;omega);omega
end Go.Al
namespace Go.Proofs.YtaecpjgmcffliaaGreatDoor
open Go.Al Go.Proofs.Tryz
section
theorem LP (W:List Int) (d:Int) (c6:W.length≤20000) (c0: ∀w∈W,dQ w∧sU w):eG dR 105 [.agg [.isl 1 (W.map gI), .int .i64 d]] (.tup [.isl 4 (W.map yD), .isl 1 (W.map fun _=>[.bool true])]):=by
 have e1:(32:Int) *(W.length:Int)≤281474976710656:=by omega
 have e2:(1:Int) *(W.length:Int)≤281474976710656:=by omega
 have e3:(W.length:Int)≤281474976710656:=by omega
 have X:(0:Int)≤(W.length:Int):=by omega
 refine bU 44 [.tmp 2, .tmp 3] func105 ?_;refine aA fun K B=>?_;simp only[RR,seval];refine aN fun D c8=>?_;simp only[RR,seval];refine B _ _ (aA fun K B=>?_);simp only[e1,X,aF,cA,RR,seval];refine aN fun J a4=>?_;have c1:J≠D:=fun e=>by rw[e]at a4;simp only[RR,seval,reduceCtorEq]at a4
 have N:=c1.symm;simp only[RR,seval];refine B _ _ (aA fun K B=>?_);simp only[N,e2,X,aF,cA,RR,seval];refine aN fun F O=>?_;have c3:F≠D:=fun e=>by rw[e]at O;simp only[N,RR,seval,reduceCtorEq]at O
 have P:=c3.symm;have U:F≠J:=fun e=>by rw[e]at O;simp only[RR,seval,reduceCtorEq]at O
 have a5:=U.symm;simp only[RR,seval];refine B _ _ (aH (aA fun K B=>?_));simp only[RR,seval];refine B _ _ (bN fun F1 M1 f g=>?_);have H:=f 1;have z:=f 2;have A:=f 3;have n:=f 4;have p:=f 5;have E:=f 6;have l:=g D;have C:=g J;have j:=g F;simp only[N,P,a5,RR,seval]at H z A n p E l C j;refine aQ (eT [1,2,3,4,5] (W.length) (fun k fr M=>fr 6= .int .i64 (k:Nat)∧M D=M1 D∧M J=some (.rows 4 ((W.take k).map yD++List.replicate (W.length-k) [AV.int .i64 0, .int .i64 0, .int .i64 0, .int .i64 0]))∧M F=some (.rows 1 ((W.take k).map (fun _=>[AV.bool true])++List.replicate (W.length-k) [AV.bool false]))) ⟨E,rfl,C,j⟩ ?_);rintro k V M2 c7 ⟨Y,i,C,j⟩ I K0 a9;have H:=(I 1 rfl).trans H;have z:=(I 2 rfl).trans z;have A:=(I 3 rfl).trans A;have n:=(I 4 rfl).trans n;have p:=(I 5 rfl).trans p;have E:=Y;clear Y;have l:=i.trans l;have Q:=bC.refl [1,2,3,4,5] V;have R:=i;clear I;refine aH (aA fun K B=>?_);simp only[H,E,l,aF,RR,seval];refine B _ _ (aX ?_ ?_)<;>intro S
 ·have a3:k<W.length:=by have:=aD S;omega
  clear S;obtain⟨wd,L⟩: ∃x,W[k]?=some x:=⟨_,aC a3⟩;have b4:=G7 L;obtain⟨hu,b6⟩:=c0 wd (aW L);have hD:=K9 wd hu b6;obtain⟨o,a,b,c,a1⟩: ∃o a b c,yD wd=[AV.int .i64 o, .int .i64 a, .int .i64 b, .int .i64 c]:=⟨_,_,_,_,rfl⟩;rw[a1]at hD;have b2:=Qs W yD [AV.int .i64 0, .int .i64 0, .int .i64 0, .int .i64 0] L;have b3:=Qs W (fun _=>[AV.bool true]) [AV.bool false] L;have b8:=Qr W yD [AV.int .i64 0, .int .i64 0, .int .i64 0, .int .i64 0] L a1;have b9:=Qr W (fun _=>[AV.bool true]) [AV.bool false] L rfl;have a2:(k:Int)<(W.length:Int):=by omega
  refine aL ?_;simp only[RR];refine aH (aQ (aA fun K B=>?_));simp only[H,E,l,cA,b4,a2,RR,seval];refine aI (hD) ?_;simp only[RR,seval];refine aN fun b7 T=>?_;have c5:=cR T l;have a6:=c5.symm;have a7:=cR T C;have c2:=a7.symm;have a8:=cR T j;have c4:=a8.symm;simp only[RR,seval];refine B _ _ (aM ?_);simp only[n,p,E,C,j,U,c2,c4,cA,b2,b3,a2,RR,seval];refine bN fun F3 M3 f g=>?_;have Z:=f 1;have t:=f 2;have u:=f 3;have v:=f 4;have y:=f 5;have g6:=f 6;have f7:=f 7;have f8:=f 8;have i:=g D;have C:=g J;have j:=g F;have b0:=g b7;simp only[H,z,A,n,p,E,l,N,P,a5,a6,a7,a8,RR,seval]at Z t u v y g6 f7 f8 i C j b0;have Q:bC [1,2,3,4,5] V F3:=bC.same f (by repeat (first|exact Q|refine bC.upd rfl ?_));have R:=(g D).trans (by(simp only[N,P,a6,aS,seval];exact R));have H:=Z;have z:=t;have A:=u;have n:=v;have p:=y;have E:=g6;have l:=i;rw[b8]at C;rw[b9]at j;refine aM ?_;simp only[E,RR,seval];rw[aU _ (by omega)];refine a9 _ _ a3 ⟨by rfl,R,C,j⟩ (by repeat (first|exact Q|refine bC.upd rfl ?_))
 have b5:k=W.length:=by have:=aE S;omega
 rw[b5,dV,Gm,List.replicate_zero,eF]at C j;refine cH ?_;simp only[RR,seval];refine bN fun F4 M4 f g=>?_;have t:=f 2;have u:=f 3;have v:=f 4;have y:=f 5;have i:=g D;have a0:=g J;have G:=g F;simp only[z,A,n,p,l,C,j,RR,seval]at t u v y i a0 G;have z:=t;have A:=u;have n:=v;have p:=y;have l:=i;have C:=a0;have j:=G;refine oG C ?_;refine bN fun F5 M5 f g=>?_;have t:=f 2;have u:=f 3;have v:=f 4;have y:=f 5;have i:=g D;have G:=g F;simp only[tQ,cX,dH,eE,xQ,Ue,Gx,Ud,and_self,aF,I5,z,A,n,p,l,j,N,U,aF,RR,seval]at t u v y i G;have z:=t;have A:=u;have n:=v;have p:=y;have l:=i;have j:=G;refine bN fun F6 M6 f g=>?_;have t:=f 2;have u:=f 3;have v:=f 4;have y:=f 5;have i:=g D;have G:=g F;simp only[z,A,n,p,l,j,seval]at t u v y i G;have z:=t;have A:=u;have n:=v;have p:=y;have l:=i;have j:=G;refine oG j ?_;refine bN fun F7 M7 f g=>?_;have t:=f 2;have u:=f 3;have v:=f 4;have y:=f 5;have i:=g D;simp only[tQ,cX,dH,eE,xQ,Ue,Gx,Ud,and_self,aF,z,A,n,p,l,P,aF,seval]at t u v y i;have z:=t;have A:=u;have n:=v;have p:=y;have l:=i;refine aA fun K B=>?_;simp only[n,p,RR,seval];apply B;refine aP ?_;simp only[aY,aK,bP,RR,seval];refine bB.pure ?_;rfl
theorem BN (W:List Int) (D:Nat) (Z:0<D∧D≤32768):eG dR 41 [.agg [.isl 1 (W.map gI), .int .i64 (D:Int)]] (.agg [.int .i64 0, .int .u32 0, .int .u32 0, .int .u32 0, .int .u32 0, .int .u32 0, .int .u32 0, .int .u32 0, .int .u32 0, .int .u32 0, .int .u32 0, .int .u32 0, .int .u32 0, .int .u32 0, .int .u32 0, .int .u32 0, .int .u32 0, .isl 1 (List.replicate D [.int .u32 0]), .int .i64 0, .str [], .int .i64 0, .int .i64 0]):=by
 have L:(4:Int) *(D:Int)≤281474976710656:=by omega
 have M:decide ((0:Int)<(D:Int))=true:=cV (by omega);have N:decide ((D:Int)≤32768)=true:=cV (by omega);have O:(0:Int)≤(D:Int):=by omega
 refine bU 17 [.cell 2 93] func41 ?_;refine aA fun K b=>?_;simp only[RR,seval];refine aN fun d a0=>?_;simp only[RR,seval];refine aN fun f E=>?_;have R:f≠d:=fun e=>by rw[e]at E;simp only[RR,seval,reduceCtorEq]at E
 have k:=R.symm;simp only[RR,seval];refine b _ _ (aA fun K b=>?_);simp only[RR,seval];refine aN fun g t=>?_;have S:g≠d:=fun e=>by rw[e]at t;simp only[k,RR,seval,reduceCtorEq]at t
 have u:=S.symm;have T:g≠f:=fun e=>by rw[e]at t;simp only[RR,seval,reduceCtorEq]at t
 have I:=T.symm;simp only[RR,seval];refine b _ _ (aH (aA fun K b=>?_));simp only[k,u,M,N,RR,seval];refine b _ _ (cM (aM ?_));simp only[k,u,L,O,cA,RR,seval];refine aN fun l c=>?_;have P:l≠d:=fun e=>by rw[e]at c;simp only[k,u,RR,seval,reduceCtorEq]at c
 have G:=P.symm;have Q:l≠f:=fun e=>by rw[e]at c;simp only[I,RR,seval,reduceCtorEq]at c
 have H:=Q.symm;have F:l≠g:=fun e=>by rw[e]at c;simp only[RR,seval,reduceCtorEq]at c
 have J:=F.symm;simp only[J,RR,seval];refine bN fun U X j a=>?_;have i:=j 2;have n:=j 3;have v:=a d;have o:=a f;have p:=a g;have C:=a l;simp only[k,u,I,G,H,F,RR,seval]at i n v o p C;refine oG C ?_;refine bN fun V Y j a=>?_;have x:=j 2;have y:=j 3;have z:=a d;have A:=a f;have B:=a g;simp only[tQ,cX,dH,eE,xQ,Ue,Gx,OC,OD,Ud,and_self,fG,i,n,v,o,p,G,H,J,seval]at x y z A B;have i:=x;have n:=y;have v:=z;have o:=A;have p:=B;refine aA fun K b=>?_;simp only[i,n,o,p,RR,seval];apply b;refine aP ?_;simp only[aY,aK,bP,i,RR,seval];refine bB.pure ?_;rfl
end
theorem MK (W:List Int) (inp:dE) (D:Nat) (fu:Int) (G:Nat→Mc) (en:Nat→Int) (k:Nat) (hD:D=4224) (k0:W.length≤20000) (k7: ∀w∈W,dQ w∧sU w) (l5:inp.length≤2000000) (h0:G 0=E5)
  (hs: ∀i,i≤k→en i=0∧(G i).st≤1000000000000∧nB W inp (G i)=some (en (i+1),G (i+1))) (he:en (k+1)≠0) (n1:k≤1000000000000) (n0:(k:Int)+2≤fu):
  pP dR 68 [.agg [.isl 1 (W.map gI), .int .i64 (D:Int)], .str inp, .agg [.int .i64 0, .int .u32 0, .int .u32 0, .int .u32 0, .int .u32 0, .int .u32 0, .int .u32 0, .int .u32 0, .int .u32 0, .int .u32 0, .int .u32 0, .int .u32 0, .int .u32 0, .int .u32 0, .int .u32 0, .int .u32 0, .int .u32 0, .isl 1 (List.replicate D [.int .u32 0]), .int .i64 0, .str [], .int .i64 0, .int .i64 0], .int .i64 fu] oN (fun ae _=> ∃vc,ae= .ret (.tup [.agg (O1 (G (k+1)) (.isl 1 ((G (k+1)).mem.map gI)) (en (k+1))),vc])):=by
 have hC:=LP W (D:Int) k0 k7;have e1:(8:Int) *(W.length:Int)≤281474976710656:=by omega
 have e4:(0:Int)≤(W.length:Int):=by omega
 have e5:D *4≤140737488355328:=by omega
 have i9:(List.replicate D [AV.int .u32 0]).length=D:=fG
 have i8:(List.replicate D [AV.int .u32 0]).all (fun r=>r.all one)=true:=by
  rw[cI];intro x hx;rw[PC hx];rfl
 have l8:List.replicate D [AV.int .u32 0]=E5.mem.map gI:=by rw[hD];exact MV.symm
 generalize hL:List.replicate D [AV.int .u32 0]=L at *;refine bU 70 [.cell 8 93, .tmp 9] func68 ?_;refine aA fun K hK=>?_;simp only[cD,RR,seval];refine aN fun C n2=>?_;simp only[cD,RR,seval];refine aN fun B k6=>?_;have k9:B≠C:=fun e=>by rw[e]at k6;simp only[RR,seval,reduceCtorEq]at k6
 have i6:=k9.symm;simp only[cD,RR,seval];refine aN fun v i5=>?_;have m4:v≠C:=fun e=>by rw[e]at i5;simp only[i6,RR,seval,reduceCtorEq]at i5
 have k8:=m4.symm;have m5:v≠B:=fun e=>by rw[e]at i5;simp only[RR,seval,reduceCtorEq]at i5
 have m3:=m5.symm;simp only[RR,seval];refine hK _ _ (aA fun K hK=>?_);simp only[i6,k8,cD,cC,RR,seval];refine aI (hC) ?_;simp only[RR,seval];refine hK _ _ (bN fun F1 M1 E hH=>?_);have f1:=E 1;have f3:=E 3;have f4:=E 4;have f6:=E 6;have N:=E 8;have f9:=E 9;have g5:=E 10;have g7:=E 11;have u:=hH C;have t:=hH B;have g:=hH v;simp only[i6,k8,m3,RR,seval]at f1 f3 f4 f6 N f9 g5 g7 u t g;refine aG fun K hK=>?_;refine gP (fun fr M=>bC [1,3,4,6,8,9,10,11] F1 fr∧M C=M1 C∧M B=M1 B∧M v=M1 v∧ ∃y p,fr 12= .ptr 22 y 0 0∧M y=some (.rows 22 [[.int .i64 0, .int .u32 0, .int .u32 0, .int .u32 0, .int .u32 0, .int .u32 0, .int .u32 0, .int .u32 0, .int .u32 0, .int .u32 0, .int .u32 0, .int .u32 0, .int .u32 0, .int .u32 0, .int .u32 0, .int .u32 0, .int .u32 0, .osl 1 p D, .int .i64 0, .str [], .int .i64 0, .int .i64 0]])∧M p=some (.rows 1 L)∧y≠p) (fun m7 j0=>?_) ?_
 ·refine lM (fun x=>x≠B) eB (by kernel_rfl) fun hd=>?_
  refine hI [(0,3),(1,0),(2,3),(3,0),(5,3),(6,0),(8,3),(9,0),(10,3),(11,0),(12,3),(13,0)] hd (m:=5) rfl (by kernel_rfl) rfl rfl ?_;simp only[dI,fP,f6,t,cD,RR,seval];refine lE hd (by kernel_rfl:Region.ready .any _ _=[4,15]) (by simp) ⟨?_, ?_,trivial⟩
  ·simp only[RR,seval]
   refine wU fun c6 b2=>?_;have h4:=cR b2 u;have d6:=h4.symm;have h5:=cR b2 t;have d7:=h5.symm;have h6:=cR b2 g;have d9:=h6.symm;simp only[RR,seval];refine lE hd (by kernel_rfl:Region.ready .any _ _=[7,15]) (by simp) ⟨?_, ?_,trivial⟩
   ·simp only[i8,cD,RR,seval]
    refine Lc (b:=c6) (bO _ _ _) (by rfl) (by(simp only[aT]);omega) (by repeat (trivial)) fun p b1=>?_;have f0:p≠C:=by rcases b1 with e|e;rw[e];exact h4;intro F;rw[F]at e;simp only[u,d6,RR,seval,reduceCtorEq]at e
    have f7:=f0.symm;have f2:p≠B:=by rcases b1 with e|e;rw[e];exact h5;intro F;rw[F]at e;simp only[t,d7,RR,seval,reduceCtorEq]at e
    have g0:=f2.symm;have f5:p≠v:=by rcases b1 with e|e;rw[e];exact h6;intro F;rw[F]at e;simp only[g,d9,RR,seval,reduceCtorEq]at e
    have g2:=f5.symm;simp only[i9,cD,cC,RR,seval];refine hI [(14,3),(15,1),(16,1)] hd (m:=0) rfl (by kernel_rfl) rfl rfl ?_;simp only[dI,cD,cC,RR,seval];refine aN fun y H=>?_;have e6:y≠C:=fun e=>by rw[e]at H;simp only[u,d6,f7,RR,seval,reduceCtorEq]at H
    have c4:=e6.symm;have c1:y≠B:=fun e=>by rw[e]at H;simp only[t,d7,g0,RR,seval,reduceCtorEq]at H
    have c5:=c1.symm;have e9:y≠v:=fun e=>by rw[e]at H;simp only[g,d9,g2,RR,seval,reduceCtorEq]at H
    have d8:=e9.symm;have c2:y≠p:=fun e=>by rw[e]at H;simp only[RR,seval,reduceCtorEq]at H
    have e7:=c2.symm;simp only[c1,cD,cC,RR,seval];refine jJ (by kernel_rfl) ?_;simp only[RR,seval];exact j0 _ _ ⟨(by repeat (first|exact bC.refl _ _|refine bC.upd rfl ?_)),(by(simp only[u,d6,f7,c4,aS,seval];done)),(by(simp only[t,d7,g0,c5,aS,seval];done)),(by(simp only[g,d9,g2,d8,aS,seval];done)),y,p,(by rfl),(by(simp only[aS,seval];done)),(by(simp only[e7,aS,seval];done)),c2⟩
   simp only[cD,RR,seval];refine aN fun y H=>?_;have e6:y≠C:=fun e=>by rw[e]at H;simp only[u,d6,RR,seval,reduceCtorEq]at H
   have c4:=e6.symm;have c1:y≠B:=fun e=>by rw[e]at H;simp only[t,d7,RR,seval,reduceCtorEq]at H
   have c5:=c1.symm;have e9:y≠v:=fun e=>by rw[e]at H;simp only[g,d9,RR,seval,reduceCtorEq]at H
   have d8:=e9.symm;have i2:y≠c6:=fun e=>by rw[e]at H;simp only[RR,seval,reduceCtorEq]at H
   have i3:=i2.symm;simp only[RR,seval];refine hI [(7,1),(14,3),(16,1)] hd (m:=0) rfl (by kernel_rfl) rfl rfl ?_;simp only[dI,i8,cD,RR,seval];refine Lc (b:=c6) (by(simp only[i3,aS,seval];rfl)) (by rfl) (by(simp only[aT]);omega) (by repeat (trivial)) fun p b1=>?_;have f0:p≠C:=by rcases b1 with e|e;rw[e];exact h4;intro F;rw[F]at e;simp only[u,d6,c4,RR,seval,reduceCtorEq]at e
   have f7:=f0.symm;have f2:p≠B:=by rcases b1 with e|e;rw[e];exact h5;intro F;rw[F]at e;simp only[t,d7,c5,RR,seval,reduceCtorEq]at e
   have g0:=f2.symm;have f5:p≠v:=by rcases b1 with e|e;rw[e];exact h6;intro F;rw[F]at e;simp only[g,d9,d8,RR,seval,reduceCtorEq]at e
   have g2:=f5.symm;have e7:p≠y:=by rcases b1 with e|e;rw[e];exact i3;intro F;rw[F]at e;simp only[RR,seval,reduceCtorEq]at e
   have c2:=e7.symm;simp only[c1,i2,c2,i9,cD,cC,RR,seval];refine jJ (by kernel_rfl) ?_;simp only[RR,seval];exact j0 _ _ ⟨(by repeat (first|exact bC.refl _ _|refine bC.upd rfl ?_)),(by(simp only[u,d6,c4,f7,aS,seval];done)),(by(simp only[t,d7,c5,g0,aS,seval];done)),(by(simp only[g,d9,d8,g2,aS,seval];done)),y,p,(by rfl),(by(simp only[aS,seval];done)),(by(simp only[e7,aS,seval];done)),c2⟩
  simp only[cD,RR,seval];refine aN fun y H=>?_;have e6:=cR H u;have c4:=e6.symm;have c1:=cR H t;have c5:=c1.symm;have e9:=cR H g;have d8:=e9.symm;simp only[RR,seval];refine hI [(4,1),(7,1),(14,3),(16,1)] hd (m:=0) rfl (by kernel_rfl) rfl rfl ?_;simp only[dI,RR,seval];refine wU fun c6 b2=>?_;have h4:c6≠C:=fun e=>by rw[e]at b2;simp only[u,c4,RR,seval,reduceCtorEq]at b2
  have d6:=h4.symm;have h5:c6≠B:=fun e=>by rw[e]at b2;simp only[t,c5,RR,seval,reduceCtorEq]at b2
  have d7:=h5.symm;have h6:c6≠v:=fun e=>by rw[e]at b2;simp only[g,d8,RR,seval,reduceCtorEq]at b2
  have d9:=h6.symm;have i3:c6≠y:=fun e=>by rw[e]at b2;simp only[RR,seval,reduceCtorEq]at b2
  have i2:=i3.symm;simp only[i8,cD,RR,seval];refine Lc (b:=c6) (bO _ _ _) (by rfl) (by(simp only[aT]);omega) (by repeat (trivial)) fun p b1=>?_;have f0:p≠C:=by rcases b1 with e|e;rw[e];exact h4;intro F;rw[F]at e;simp only[u,c4,d6,RR,seval,reduceCtorEq]at e
  have f7:=f0.symm;have f2:p≠B:=by rcases b1 with e|e;rw[e];exact h5;intro F;rw[F]at e;simp only[t,c5,d7,RR,seval,reduceCtorEq]at e
  have g0:=f2.symm;have f5:p≠v:=by rcases b1 with e|e;rw[e];exact h6;intro F;rw[F]at e;simp only[g,d8,d9,RR,seval,reduceCtorEq]at e
  have g2:=f5.symm;have e7:p≠y:=by rcases b1 with e|e;rw[e];exact i3;intro F;rw[F]at e;simp only[i2,RR,seval,reduceCtorEq]at e
  have c2:=e7.symm;simp only[c1,i2,c2,i9,cD,cC,RR,seval];refine jJ (by kernel_rfl) ?_;simp only[RR,seval];exact j0 _ _ ⟨(by repeat (first|exact bC.refl _ _|refine bC.upd rfl ?_)),(by(simp only[u,c4,d6,f7,aS,seval];done)),(by(simp only[t,c5,d7,g0,aS,seval];done)),(by(simp only[g,d8,d9,g2,aS,seval];done)),y,p,(by rfl),(by(simp only[aS,seval];done)),(by(simp only[e7,aS,seval];done)),c2⟩
 rintro F2 M2 ⟨I,e0,e3,c0,y,p,i7,z,A,c2⟩;simp only[iM];apply hK;have f1:=(I 1 rfl).trans f1;have f3:=(I 3 rfl).trans f3;have f4:=(I 4 rfl).trans f4;have f6:=(I 6 rfl).trans f6;have N:=(I 8 rfl).trans N;have f9:=(I 9 rfl).trans f9;have g5:=(I 10 rfl).trans g5;have g7:=(I 11 rfl).trans g7;have u:=e0.trans u;have t:=e3.trans t;have g:=c0.trans g;clear I e0 e3 c0;have e7:=c2.symm;have e6:y≠C:=fun e=>by rw[e,u]at z;cases z
 have c1:y≠B:=fun e=>by rw[e,t]at z;cases z
 have e9:y≠v:=fun e=>by rw[e,g]at z;cases z
 have f0:p≠C:=fun e=>by rw[e,u]at A;cases A
 have f2:p≠B:=fun e=>by rw[e,t]at A;cases A
 have f5:p≠v:=fun e=>by rw[e,g]at A;cases A
 have c4:=e6.symm;have c5:=c1.symm;have d8:=e9.symm;have f7:=f0.symm;have g0:=f2.symm;have g2:=f5.symm;refine bN fun F3 M3 E hH=>?_;have g1:=E 1;have g3:=E 3;have g4:=E 4;have g6:=E 6;have g8:=E 8;have g9:=E 9;have j5:=E 10;have j6:=E 11;have j7:=E 12;have e0:=hH C;have e3:=hH B;have c0:=hH v;have h8:=hH y;have h9:=hH p;simp only[f1,f3,f4,f6,N,f9,g5,g7,i7,u,t,g,z,A,seval]at g1 g3 g4 g6 g8 g9 j5 j6 j7 e0 e3 c0 h8 h9;have f1:=g1;have f3:=g3;have f4:=g4;have f6:=g6;have N:=g8;have f9:=g9;have g5:=j5;have g7:=j6;have i7:=j7;have u:=e0;have t:=e3;have g:=c0;have z:=h8;have A:=h9;refine aG fun K hK=>?_;refine gP (fun fr M=>bC [3,8,9] F3 fr∧M C=M3 C∧M B=M3 B∧M v=M3 v∧M y=M3 y∧M p=M3 p∧ ∃j l o,fr 13= .ptr 28 j 0 0∧M j=some (.rows 28 [[.int .i64 0, .int .u32 0, .int .u32 0, .int .u32 0, .int .u32 0, .int .u32 0, .int .u32 0, .int .u32 0, .int .u32 0, .int .u32 0, .int .u32 0, .int .u32 0, .int .u32 0, .int .u32 0, .int .u32 0, .int .u32 0, .int .u32 0, .osl 1 p D, .int .i64 0, .str [], .int .i64 0, .int .i64 0, .osl 1 l 0, .isl 4 (W.map yD), .isl 1 (W.map fun _=>[.bool true]), .isl 1 (W.map gI), .str inp, .osl 1 o W.length]])∧M l=some (.rows 1 [])∧M o=some (.rows 1 (List.replicate W.length [.int .i64 0]))∧l≠p∧o≠p∧l≠o) (fun m8 h2=>?_) ?_
 ·refine lM (fun x=>x≠C∧x≠B∧x≠y) eB (by kernel_rfl) fun hd=>?_
  refine hI [(0,0),(1,3),(2,0),(4,3),(5,3),(6,3),(7,0),(8,3),(9,3),(10,0),(11,3)] hd (m:=5) rfl (by kernel_rfl) rfl rfl ?_;simp only[dI,fP,f1,f4,f6,g5,g7,i7,u,t,z,k9,i6,e6,c1,c4,c5,aF,cD,RR,seval];refine lE hd (by kernel_rfl:Region.ready .any _ _=[3,12,14]) (by simp) ⟨?_, ?_, ?_,trivial⟩
  ·simp only[rS,RR,seval]
   refine aN fun l d=>?_;have c9:=cR d u;have Z:=c9.symm;have d0:=cR d t;have a2:=d0.symm;have d1:=cR d g;have a4:=d1.symm;have c8:=cR d z;have S:=c8.symm;have P:=cR d A;have V:=P.symm;simp only[RR,seval];refine lE hd (by kernel_rfl:Region.ready .any _ _=[12,14]) (by simp) ⟨?_, ?_,trivial⟩
   ·simp only[e1,e4,cA,cD,RR,seval]
    refine aN fun o f=>?_;have d3:o≠C:=fun e=>by rw[e]at f;simp only[u,Z,RR,seval,reduceCtorEq]at f
    have a0:=d3.symm;have d4:o≠B:=fun e=>by rw[e]at f;simp only[t,a2,RR,seval,reduceCtorEq]at f
    have a3:=d4.symm;have d5:o≠v:=fun e=>by rw[e]at f;simp only[g,a4,RR,seval,reduceCtorEq]at f
    have a5:=d5.symm;have d2:o≠y:=fun e=>by rw[e]at f;simp only[z,S,RR,seval,reduceCtorEq]at f
    have T:=d2.symm;have Q:o≠p:=fun e=>by rw[e]at f;simp only[A,V,RR,seval,reduceCtorEq]at f
    have X:=Q.symm;have b7:o≠l:=fun e=>by rw[e]at f;simp only[RR,seval,reduceCtorEq]at f
    have J:=b7.symm;simp only[RR,seval];refine hI [(13,3),(14,1),(15,1)] hd (m:=0) rfl (by kernel_rfl) rfl rfl ?_;simp only[dI,cD,cC,RR,seval];refine aN fun j a=>?_;have a7:j≠C:=fun e=>by rw[e]at a;simp only[u,Z,a0,RR,seval,reduceCtorEq]at a
    have Y:=a7.symm;have a8:j≠B:=fun e=>by rw[e]at a;simp only[t,a2,a3,RR,seval,reduceCtorEq]at a
    have a1:=a8.symm;have c3:j≠v:=fun e=>by rw[e]at a;simp only[g,a4,a5,RR,seval,reduceCtorEq]at a
    have O:=c3.symm;have a6:j≠y:=fun e=>by rw[e]at a;simp only[z,S,T,RR,seval,reduceCtorEq]at a
    have R:=a6.symm;have c7:j≠p:=fun e=>by rw[e]at a;simp only[A,V,X,RR,seval,reduceCtorEq]at a
    have U:=c7.symm;have b3:j≠l:=fun e=>by rw[e]at a;simp only[J,RR,seval,reduceCtorEq]at a
    have a9:=b3.symm;have b5:j≠o:=fun e=>by rw[e]at a;simp only[RR,seval,reduceCtorEq]at a
    have b0:=b5.symm;simp only[a7,a8,a6,cD,cC,RR,seval];refine jJ (by kernel_rfl) ?_;simp only[RR,seval];exact h2 _ _ ⟨(by repeat (first|exact bC.refl _ _|refine bC.upd rfl ?_)),(by(simp only[u,Z,a0,Y,aS,seval];done)),(by(simp only[t,a2,a3,a1,aS,seval];done)),(by(simp only[g,a4,a5,O,aS,seval];done)),(by(simp only[z,S,T,R,aS,seval];done)),(by(simp only[A,V,X,U,aS,seval];done)),j,l,o,(by rfl),(by(simp only[aS,seval];done)),(by(simp only[J,a9,aS,seval];done)),(by(simp only[b0,aS,seval];done)),P,Q,J⟩
   simp only[cD,RR,seval];refine aN fun j a=>?_;have a7:j≠C:=fun e=>by rw[e]at a;simp only[u,Z,RR,seval,reduceCtorEq]at a
   have Y:=a7.symm;have a8:j≠B:=fun e=>by rw[e]at a;simp only[t,a2,RR,seval,reduceCtorEq]at a
   have a1:=a8.symm;have c3:j≠v:=fun e=>by rw[e]at a;simp only[g,a4,RR,seval,reduceCtorEq]at a
   have O:=c3.symm;have a6:j≠y:=fun e=>by rw[e]at a;simp only[z,S,RR,seval,reduceCtorEq]at a
   have R:=a6.symm;have c7:j≠p:=fun e=>by rw[e]at a;simp only[A,V,RR,seval,reduceCtorEq]at a
   have U:=c7.symm;have b3:j≠l:=fun e=>by rw[e]at a;simp only[RR,seval,reduceCtorEq]at a
   have a9:=b3.symm;simp only[RR,seval];refine hI [(12,1),(13,3),(15,1)] hd (m:=0) rfl (by kernel_rfl) rfl rfl ?_;simp only[dI,e1,e4,cA,cD,RR,seval];refine aN fun o f=>?_;have d3:o≠C:=fun e=>by rw[e]at f;simp only[u,Z,Y,RR,seval,reduceCtorEq]at f
   have a0:=d3.symm;have d4:o≠B:=fun e=>by rw[e]at f;simp only[t,a2,a1,RR,seval,reduceCtorEq]at f
   have a3:=d4.symm;have d5:o≠v:=fun e=>by rw[e]at f;simp only[g,a4,O,RR,seval,reduceCtorEq]at f
   have a5:=d5.symm;have d2:o≠y:=fun e=>by rw[e]at f;simp only[z,S,R,RR,seval,reduceCtorEq]at f
   have T:=d2.symm;have Q:o≠p:=fun e=>by rw[e]at f;simp only[A,V,U,RR,seval,reduceCtorEq]at f
   have X:=Q.symm;have b7:o≠l:=fun e=>by rw[e]at f;simp only[a9,RR,seval,reduceCtorEq]at f
   have J:=b7.symm;have b0:o≠j:=fun e=>by rw[e]at f;simp only[RR,seval,reduceCtorEq]at f
   have b5:=b0.symm;simp only[a7,a8,a6,b5,cD,cC,RR,seval];refine jJ (by kernel_rfl) ?_;simp only[RR,seval];exact h2 _ _ ⟨(by repeat (first|exact bC.refl _ _|refine bC.upd rfl ?_)),(by(simp only[u,Z,Y,a0,aS,seval];done)),(by(simp only[t,a2,a1,a3,aS,seval];done)),(by(simp only[g,a4,O,a5,aS,seval];done)),(by(simp only[z,S,R,T,aS,seval];done)),(by(simp only[A,V,U,X,aS,seval];done)),j,l,o,(by rfl),(by(simp only[aS,seval];done)),(by(simp only[a9,J,aS,seval];done)),(by(simp only[b0,aS,seval];done)),P,Q,J⟩
  ·simp only[e1,e4,cA,cD,RR,seval]
   refine aN fun o f=>?_;have d3:=cR f u;have a0:=d3.symm;have d4:=cR f t;have a3:=d4.symm;have d5:=cR f g;have a5:=d5.symm;have d2:=cR f z;have T:=d2.symm;have Q:=cR f A;have X:=Q.symm;simp only[RR,seval];refine lE hd (by kernel_rfl:Region.ready .any _ _=[3,14]) (by simp) ⟨?_, ?_,trivial⟩
   ·simp only[rS,RR,seval]
    refine aN fun l d=>?_;have c9:l≠C:=fun e=>by rw[e]at d;simp only[u,a0,RR,seval,reduceCtorEq]at d
    have Z:=c9.symm;have d0:l≠B:=fun e=>by rw[e]at d;simp only[t,a3,RR,seval,reduceCtorEq]at d
    have a2:=d0.symm;have d1:l≠v:=fun e=>by rw[e]at d;simp only[g,a5,RR,seval,reduceCtorEq]at d
    have a4:=d1.symm;have c8:l≠y:=fun e=>by rw[e]at d;simp only[z,T,RR,seval,reduceCtorEq]at d
    have S:=c8.symm;have P:l≠p:=fun e=>by rw[e]at d;simp only[A,X,RR,seval,reduceCtorEq]at d
    have V:=P.symm;have J:l≠o:=fun e=>by rw[e]at d;simp only[RR,seval,reduceCtorEq]at d
    have b7:=J.symm;simp only[RR,seval];refine hI [(13,3),(14,1),(15,1)] hd (m:=0) rfl (by kernel_rfl) rfl rfl ?_;simp only[dI,cD,cC,RR,seval];refine aN fun j a=>?_;have a7:j≠C:=fun e=>by rw[e]at a;simp only[u,a0,Z,RR,seval,reduceCtorEq]at a
    have Y:=a7.symm;have a8:j≠B:=fun e=>by rw[e]at a;simp only[t,a3,a2,RR,seval,reduceCtorEq]at a
    have a1:=a8.symm;have c3:j≠v:=fun e=>by rw[e]at a;simp only[g,a5,a4,RR,seval,reduceCtorEq]at a
    have O:=c3.symm;have a6:j≠y:=fun e=>by rw[e]at a;simp only[z,T,S,RR,seval,reduceCtorEq]at a
    have R:=a6.symm;have c7:j≠p:=fun e=>by rw[e]at a;simp only[A,X,V,RR,seval,reduceCtorEq]at a
    have U:=c7.symm;have b5:j≠o:=fun e=>by rw[e]at a;simp only[b7,RR,seval,reduceCtorEq]at a
    have b0:=b5.symm;have b3:j≠l:=fun e=>by rw[e]at a;simp only[RR,seval,reduceCtorEq]at a
    have a9:=b3.symm;simp only[a7,a8,a6,cD,cC,RR,seval];refine jJ (by kernel_rfl) ?_;simp only[RR,seval];exact h2 _ _ ⟨(by repeat (first|exact bC.refl _ _|refine bC.upd rfl ?_)),(by(simp only[u,a0,Z,Y,aS,seval];done)),(by(simp only[t,a3,a2,a1,aS,seval];done)),(by(simp only[g,a5,a4,O,aS,seval];done)),(by(simp only[z,T,S,R,aS,seval];done)),(by(simp only[A,X,V,U,aS,seval];done)),j,l,o,(by rfl),(by(simp only[aS,seval];done)),(by(simp only[a9,aS,seval];done)),(by(simp only[b7,b0,aS,seval];done)),P,Q,J⟩
   simp only[cD,RR,seval];refine aN fun j a=>?_;have a7:j≠C:=fun e=>by rw[e]at a;simp only[u,a0,RR,seval,reduceCtorEq]at a
   have Y:=a7.symm;have a8:j≠B:=fun e=>by rw[e]at a;simp only[t,a3,RR,seval,reduceCtorEq]at a
   have a1:=a8.symm;have c3:j≠v:=fun e=>by rw[e]at a;simp only[g,a5,RR,seval,reduceCtorEq]at a
   have O:=c3.symm;have a6:j≠y:=fun e=>by rw[e]at a;simp only[z,T,RR,seval,reduceCtorEq]at a
   have R:=a6.symm;have c7:j≠p:=fun e=>by rw[e]at a;simp only[A,X,RR,seval,reduceCtorEq]at a
   have U:=c7.symm;have b5:j≠o:=fun e=>by rw[e]at a;simp only[RR,seval,reduceCtorEq]at a
   have b0:=b5.symm;simp only[RR,seval];refine hI [(3,1),(13,3),(15,1)] hd (m:=0) rfl (by kernel_rfl) rfl rfl ?_;simp only[dI,rS,RR,seval];refine aN fun l d=>?_;have c9:l≠C:=fun e=>by rw[e]at d;simp only[u,a0,Y,RR,seval,reduceCtorEq]at d
   have Z:=c9.symm;have d0:l≠B:=fun e=>by rw[e]at d;simp only[t,a3,a1,RR,seval,reduceCtorEq]at d
   have a2:=d0.symm;have d1:l≠v:=fun e=>by rw[e]at d;simp only[g,a5,O,RR,seval,reduceCtorEq]at d
   have a4:=d1.symm;have c8:l≠y:=fun e=>by rw[e]at d;simp only[z,T,R,RR,seval,reduceCtorEq]at d
   have S:=c8.symm;have P:l≠p:=fun e=>by rw[e]at d;simp only[A,X,U,RR,seval,reduceCtorEq]at d
   have V:=P.symm;have J:l≠o:=fun e=>by rw[e]at d;simp only[b0,RR,seval,reduceCtorEq]at d
   have b7:=J.symm;have a9:l≠j:=fun e=>by rw[e]at d;simp only[RR,seval,reduceCtorEq]at d
   have b3:=a9.symm;simp only[a7,a8,a6,b3,cD,cC,RR,seval];refine jJ (by kernel_rfl) ?_;simp only[RR,seval];exact h2 _ _ ⟨(by repeat (first|exact bC.refl _ _|refine bC.upd rfl ?_)),(by(simp only[u,a0,Y,Z,aS,seval];done)),(by(simp only[t,a3,a1,a2,aS,seval];done)),(by(simp only[g,a5,O,a4,aS,seval];done)),(by(simp only[z,T,R,S,aS,seval];done)),(by(simp only[A,X,U,V,aS,seval];done)),j,l,o,(by rfl),(by(simp only[aS,seval];done)),(by(simp only[a9,aS,seval];done)),(by(simp only[b0,b7,aS,seval];done)),P,Q,J⟩
  simp only[cD,RR,seval];refine aN fun j a=>?_;have a7:=cR a u;have Y:=a7.symm;have a8:=cR a t;have a1:=a8.symm;have c3:=cR a g;have O:=c3.symm;have a6:=cR a z;have R:=a6.symm;have c7:=cR a A;have U:=c7.symm;simp only[RR,seval];refine lE hd (by kernel_rfl:Region.ready .any _ _=[3,12]) (by simp) ⟨?_, ?_,trivial⟩
  ·simp only[rS,RR,seval]
   refine aN fun l d=>?_;have c9:l≠C:=fun e=>by rw[e]at d;simp only[u,Y,RR,seval,reduceCtorEq]at d
   have Z:=c9.symm;have d0:l≠B:=fun e=>by rw[e]at d;simp only[t,a1,RR,seval,reduceCtorEq]at d
   have a2:=d0.symm;have d1:l≠v:=fun e=>by rw[e]at d;simp only[g,O,RR,seval,reduceCtorEq]at d
   have a4:=d1.symm;have c8:l≠y:=fun e=>by rw[e]at d;simp only[z,R,RR,seval,reduceCtorEq]at d
   have S:=c8.symm;have P:l≠p:=fun e=>by rw[e]at d;simp only[A,U,RR,seval,reduceCtorEq]at d
   have V:=P.symm;have a9:l≠j:=fun e=>by rw[e]at d;simp only[RR,seval,reduceCtorEq]at d
   have b3:=a9.symm;simp only[RR,seval];refine hI [(12,1),(13,3),(15,1)] hd (m:=0) rfl (by kernel_rfl) rfl rfl ?_;simp only[dI,e1,e4,cA,cD,RR,seval];refine aN fun o f=>?_;have d3:o≠C:=fun e=>by rw[e]at f;simp only[u,Y,Z,RR,seval,reduceCtorEq]at f
   have a0:=d3.symm;have d4:o≠B:=fun e=>by rw[e]at f;simp only[t,a1,a2,RR,seval,reduceCtorEq]at f
   have a3:=d4.symm;have d5:o≠v:=fun e=>by rw[e]at f;simp only[g,O,a4,RR,seval,reduceCtorEq]at f
   have a5:=d5.symm;have d2:o≠y:=fun e=>by rw[e]at f;simp only[z,R,S,RR,seval,reduceCtorEq]at f
   have T:=d2.symm;have Q:o≠p:=fun e=>by rw[e]at f;simp only[A,U,V,RR,seval,reduceCtorEq]at f
   have X:=Q.symm;have b0:o≠j:=fun e=>by rw[e]at f;simp only[b3,RR,seval,reduceCtorEq]at f
   have b5:=b0.symm;have b7:o≠l:=fun e=>by rw[e]at f;simp only[RR,seval,reduceCtorEq]at f
   have J:=b7.symm;simp only[a7,a8,a6,b3,b5,cD,cC,RR,seval];refine jJ (by kernel_rfl) ?_;simp only[RR,seval];exact h2 _ _ ⟨(by repeat (first|exact bC.refl _ _|refine bC.upd rfl ?_)),(by(simp only[u,Y,Z,a0,aS,seval];done)),(by(simp only[t,a1,a2,a3,aS,seval];done)),(by(simp only[g,O,a4,a5,aS,seval];done)),(by(simp only[z,R,S,T,aS,seval];done)),(by(simp only[A,U,V,X,aS,seval];done)),j,l,o,(by rfl),(by(simp only[aS,seval];done)),(by(simp only[a9,J,aS,seval];done)),(by(simp only[b0,aS,seval];done)),P,Q,J⟩
  simp only[e1,e4,cA,cD,RR,seval];refine aN fun o f=>?_;have d3:o≠C:=fun e=>by rw[e]at f;simp only[u,Y,RR,seval,reduceCtorEq]at f
  have a0:=d3.symm;have d4:o≠B:=fun e=>by rw[e]at f;simp only[t,a1,RR,seval,reduceCtorEq]at f
  have a3:=d4.symm;have d5:o≠v:=fun e=>by rw[e]at f;simp only[g,O,RR,seval,reduceCtorEq]at f
  have a5:=d5.symm;have d2:o≠y:=fun e=>by rw[e]at f;simp only[z,R,RR,seval,reduceCtorEq]at f
  have T:=d2.symm;have Q:o≠p:=fun e=>by rw[e]at f;simp only[A,U,RR,seval,reduceCtorEq]at f
  have X:=Q.symm;have b0:o≠j:=fun e=>by rw[e]at f;simp only[RR,seval,reduceCtorEq]at f
  have b5:=b0.symm;simp only[RR,seval];refine hI [(3,1),(13,3),(15,1)] hd (m:=0) rfl (by kernel_rfl) rfl rfl ?_;simp only[dI,rS,RR,seval];refine aN fun l d=>?_;have c9:l≠C:=fun e=>by rw[e]at d;simp only[u,Y,a0,RR,seval,reduceCtorEq]at d
  have Z:=c9.symm;have d0:l≠B:=fun e=>by rw[e]at d;simp only[t,a1,a3,RR,seval,reduceCtorEq]at d
  have a2:=d0.symm;have d1:l≠v:=fun e=>by rw[e]at d;simp only[g,O,a5,RR,seval,reduceCtorEq]at d
  have a4:=d1.symm;have c8:l≠y:=fun e=>by rw[e]at d;simp only[z,R,T,RR,seval,reduceCtorEq]at d
  have S:=c8.symm;have P:l≠p:=fun e=>by rw[e]at d;simp only[A,U,X,RR,seval,reduceCtorEq]at d
  have V:=P.symm;have a9:l≠j:=fun e=>by rw[e]at d;simp only[b5,RR,seval,reduceCtorEq]at d
  have b3:=a9.symm;have J:l≠o:=fun e=>by rw[e]at d;simp only[RR,seval,reduceCtorEq]at d
  have b7:=J.symm;simp only[a7,a8,a6,b5,b3,cD,cC,RR,seval];refine jJ (by kernel_rfl) ?_;simp only[RR,seval];exact h2 _ _ ⟨(by repeat (first|exact bC.refl _ _|refine bC.upd rfl ?_)),(by(simp only[u,Y,a0,Z,aS,seval];done)),(by(simp only[t,a1,a3,a2,aS,seval];done)),(by(simp only[g,O,a5,a4,aS,seval];done)),(by(simp only[z,R,T,S,aS,seval];done)),(by(simp only[A,U,X,V,aS,seval];done)),j,l,o,(by rfl),(by(simp only[aS,seval];done)),(by(simp only[a9,aS,seval];done)),(by(simp only[b0,b7,aS,seval];done)),P,Q,J⟩
 rintro F4 M4 ⟨I,e0,e3,c0,h8,h9,j,l,o,b9,e8,i4,k2,P,Q,J⟩;simp only[iM];apply hK;have f3:=(I 3 rfl).trans f3;have N:=(I 8 rfl).trans N;have f9:=(I 9 rfl).trans f9;have u:=e0.trans u;have t:=e3.trans t;have g:=c0.trans g;have z:=h8.trans z;have A:=h9.trans A;clear I e0 e3 c0 h8 h9;have j1:jU W inp j p o (.osl 1 l 0) E5 0 M4:=⟨by rw[←hD];exact e8,by rw[←l8];exact A,MW,⟨List.replicate W.length 0,fG,by rw[List.map_replicate];exact k2⟩, .inr ⟨l,rfl,i4⟩,fun s n e=>P (by cases e;rfl),fun s n e=>J (by cases e;rfl),Ne.symm Q,cN _,⟨by decide,by decide⟩,⟨by decide,by decide⟩,WI,cN _⟩;have h3:off (.osl 1 l 0) v:=fun s n e=>by cases e;rw[g]at i4;cases i4
 clear u t z A i4 k2;refine aH (aA fun K hK=>?_);simp only[RR,seval];refine hK _ _ (bN fun F5 M5 E hH=>?_);have g3:=E 3;have g8:=E 8;have g9:=E 9;have j8:=E 13;have h7:=E 14;have c0:=hH v;have j9:=hH j;simp only[f3,N,f9,b9,g,e8,RR,seval]at g3 g8 g9 j8 h7 c0 j9;have j1:jU W inp j p o (.osl 1 l 0) E5 0 M5:=j1.same hH;have f3:=g3;have N:=g8;have f9:=g9;have b9:=j8;have g:=c0;have e8:=j9;refine aQ ?_;refine iP [3,8,9,13] (k+1) (fun q fr M=> ∃i vo,i≤k+1∧q=k+1 -i∧fr 14= .int .i64 (i:Nat)∧jU W inp j p o vo (G i) (en i) M∧M v=some (.rows 22 [[.int .i64 0, .int .u32 0, .int .u32 0, .int .u32 0, .int .u32 0, .int .u32 0, .int .u32 0, .int .u32 0, .int .u32 0, .int .u32 0, .int .u32 0, .int .u32 0, .int .u32 0, .int .u32 0, .int .u32 0, .int .u32 0, .int .u32 0, .nsl, .int .i64 0, .str [], .int .i64 0, .int .i64 0]])∧off vo v) ⟨0, .osl 1 l 0,cN _,rfl,h7,(by rw[h0,(hs 0 (cN _)).1];exact j1),g,h3⟩ ?_;rintro q F6 M6 ⟨i,vo,hi,hq,h7,hM,g,h3⟩ I K0 l1;have f3:=(I 3 rfl).trans f3;have N:=(I 8 rfl).trans N;have f9:=(I 9 rfl).trans f9;have b9:=(I 13 rfl).trans b9;have l0:=bC.refl [3,8,9,13] F6;clear I;have hz:decide ((i:Int)<fu)=true:=cV (by omega);have e8:=hM.r;have m1:IntKind.wrap .i64 ((i:Int)+1)=((i+1:Nat):Int):=by rw[aU _ (by omega)];omega
 refine aH (aA fun K hK=>?_);simp only[f3,b9,h7,e8,cD,hz,RR,seval];refine hK _ _ (aX ?_ ?_)<;>intro hc
 ·have j3:=hc;clear hc
  have i0:en i=0:=aD j3
  have j2:i≤k:=by
   rcases qD i (k+1)with h|h
   ·omega
   have :i=k+1:=by omega
   rw[this]at i0;exact absurd i0 he
  obtain⟨_,m0,l9⟩:=hs i j2;rw[i0]at hM;have i1:v≠j:=fun e=>by have h1:=hM.r;rw[←e,g]at h1;cases h1
  have j4:v≠p:=fun e=>by have h1:=hM.m;rw[←e,g]at h1;cases h1
  have m2:v≠o:=fun e=>by obtain⟨cn,_,h1⟩:=hM.c;rw[←e,g]at h1;cases h1
  refine aL ?_;simp only[RR];refine aH (aQ (aM ?_));simp only[b9,cC,RR,seval];refine jS (X9 hM k0 k7 m0 l5 l9) (fun _=>trivial) fun ae H2 ⟨g1,m6,l3,l7⟩=>?_;subst g1;obtain⟨g,h3⟩:=l7 v _ g i1 j4 m2 h3;simp only[RR,seval];refine aM ?_;simp only[h7,m1,RR,seval];refine l1 (k+1 -(i+1)) _ _ (by omega) ⟨i+1,m6,by omega,rfl,by rfl,l3,g,h3⟩ (by repeat (first|exact l0|refine bC.upd rfl ?_))
 have j3:=hc;have i0:en i≠0:=aE j3
 have j2:i=k+1:=by
  rcases qD i (k+1)with h|h
  ·exact absurd (hs i (by omega)).1 i0
  omega
 subst j2;have i1:v≠j:=fun e=>by have h1:=hM.r;rw[←e,g]at h1;cases h1
 have j4:v≠p:=fun e=>by have h1:=hM.m;rw[←e,g]at h1;cases h1
 have O:=i1;have c3:=i1.symm;refine cH ?_;simp only[RR,seval];refine hM.seal fun FT HT k5 e8 l6=>?_;have N:FT 8= .ptr 22 v 0 0:=(k5 8 (by simp only[aS,N,seval];rfl)).trans (by simp only[aS,N,seval]);have b9:FT 13= .ptr 28 j 0 0:=(k5 13 (by simp only[aS,b9,seval];rfl)).trans (by simp only[aS,b9,seval]);have g:=l6 v _ _ i1 j4 h3 (fun r hr x hx=>by simp only[bE]at hr;subst hr;simp only[bJ,bL,dD]at hx;rcases hx with rfl|rfl|rfl|rfl|rfl|rfl|rfl|rfl|rfl|rfl|rfl|rfl|rfl|rfl|rfl|rfl|rfl|rfl|rfl|rfl|rfl|rfl<;>rfl) g;have l4:=Au (G (k+1)).out;refine aA fun K hK=>?_;simp only[b9,e8,cD,cC,l4,RR,seval];refine hK _ _ (aG fun K hK=>?_);refine gP (fun fr M=>fr 8= .ptr 22 v 0 0∧fr 9= .osl 1 o W.length∧M v=some (.rows 22 [[.int .i64 (G (k+1)).pc, .int .u32 0, .int .u32 (G (k+1)).r1, .int .u32 (G (k+1)).r2, .int .u32 0, .int .u32 0, .int .u32 0, .int .u32 0, .int .u32 0, .int .u32 0, .int .u32 0, .int .u32 0, .int .u32 0, .int .u32 0, .int .u32 0, .int .u32 0, .int .u32 0, .isl 1 ((G (k+1)).mem.map gI), .int .i64 (G (k+1)).rd, .str (G (k+1)).out, .int .i64 (G (k+1)).st, .int .i64 (en (k+1))]])) (fun m9 l2=>?_) ?_
 ·refine lM (fun x=>x≠j) eB (by kernel_rfl) fun hd=>?_
  refine hI [(0,3),(1,1),(2,3),(3,0),(4,1),(5,3)] hd (m:=0) rfl (by kernel_rfl) rfl rfl ?_;simp only[dI,fP,N,b9,g,O,cD,cC,RR,seval];refine jJ (by kernel_rfl) ?_;simp only[RR,seval];refine l2 _ _ ⟨?_, ?_, ?_⟩<;>first|rfl|(simp only[N,aS,seval];done)
 rintro F7 M7 ⟨N,f9,g⟩;simp only[iM];apply hK;refine aP ?_;simp only[aY,aK,bP,N,f9,g,cD,RR,seval];exact bB.run ⟨_,rfl⟩
theorem uP {q f:Mc} {a x e:Int} (h:q.set a x=some (e,f)):f.st=q.st+1:=by
 unfold Mc.set at h;by_cases c:a=1
 ·rw[bF c]at h
  have b:=(Prod.mk.inj (Option.some.inj h)).2;rw[←b];rfl
 rw[aO c]at h;by_cases d:a=2
 ·rw[bF d]at h
  have b:=(Prod.mk.inj (Option.some.inj h)).2;rw[←b];rfl
 rw[aO d]at h;cases h
theorem SZ {inp:dE} {o a b c:Int} {s s':Mc} {e:Int} (h:uG inp o a b c s=some (e,s')):s'.st≤s.st+1:=by
 unfold uG at h;by_cases g:o=1
 ·rw[bF g]at h
  exact qE (uP h)
 rw[aO g]at h;by_cases k:o=2
 ·rw[bF k]at h
  exact qE (uP h)
 rw[aO k]at h;by_cases l:o=3
 ·rw[bF l]at h
  exact qE (uP h)
 rw[aO l]at h;by_cases n:4≤o∧o≤15
 ·rw[bF n]at h
  by_cases d:(eP o (s.r b) (s.r c)).2=0
  ·rw[bF d]at h;exact qE (uP h)
  rw[aO d]at h;exact(by have f:=(Prod.mk.inj (Option.some.inj h)).2;rw[←f];exact aZ _)
 rw[aO n]at h;by_cases p:o=16
 ·rw[bF p]at h
  cases hm:s.mem[(gR (s.r b+c)).toNat]? with
  |none=>rw[hm]at h;cases h
  |some x=>rw[hm]at h;exact qE (uP h)
 rw[aO p]at h;by_cases t:o=17
 ·rw[bF t]at h
  by_cases d:(gR (s.r b+c)).toNat<s.mem.length
  ·rw[bF d]at h;exact(by have f:=(Prod.mk.inj (Option.some.inj h)).2;rw[←f];exact aZ _)
  rw[aO d]at h;cases h
 rw[aO t]at h;by_cases u:o=19
 ·rw[bF u]at h
  have f:=(Prod.mk.inj (Option.some.inj h)).2;rw[←f];split<;>exact aZ _
 rw[aO u]at h;by_cases v:o=22
 ·rw[bF v]at h
  exact(by have f:=(Prod.mk.inj (Option.some.inj h)).2;rw[←f];exact aZ _)
 rw[aO v]at h;by_cases y:o=23
 ·rw[bF y]at h
  cases hm:inp[s.rd]? with
  |none=>rw[hm]at h;exact qE (uP h)
  |some x=>
   rw[hm]at h;change ({s with rd:=s.rd+1}:Mc).set a (x.toNat:Int)=_ at h;have f:=uP h;exact qE f
 rw[aO y]at h;by_cases XP:o=24
 ·rw[bF XP]at h
  by_cases d:65536≤s.out.length
  ·rw[bF d]at h;exact(by have f:=(Prod.mk.inj (Option.some.inj h)).2;rw[←f];exact aZ _)
  rw[aO d]at h;exact(by have f:=(Prod.mk.inj (Option.some.inj h)).2;rw[←f];exact aZ _)
 rw[aO XP]at h;by_cases i:o=25
 ·rw[bF i]at h
  by_cases d:s.r a<c
  ·rw[bF d]at h;exact(by have f:=(Prod.mk.inj (Option.some.inj h)).2;rw[←f];exact aZ _)
  rw[aO d]at h;exact(by have f:=(Prod.mk.inj (Option.some.inj h)).2;rw[←f];exact aZ _)
 rw[aO i]at h;by_cases j:o=26
 ·rw[bF j]at h
  exact(by have f:=(Prod.mk.inj (Option.some.inj h)).2;rw[←f];exact aZ _)
 rw[aO j]at h;cases h
theorem IL {W:List Int} {inp:dE} {s s':Mc} {e:Int} (h:nB W inp s=some (e,s')):s'.st≤s.st+1:=by
 unfold nB at h;split at h
 ·cases h
 split at h
 ·exact SZ h
 cases h
theorem MJ {W:List Int} {inp:dE} {k:Nat} {e:Int} {s':Mc} (h:Fin W inp k E5 e s'): ∃(G:Nat→Mc) (b:Nat→Int),G 0=E5∧G (k+1)=s'∧b (k+1)=e∧ ∀i,i≤k→b i=0∧(G i).st≤i∧nB W inp (G i)=some (b (i+1),G (i+1)):=by
 obtain⟨o,j,l⟩:=h;obtain⟨g,c,f,d⟩:=j.trace
 have n: ∀i,i≤k→(g i).st≤i:=fun i=>by
  induction i with
  |zero=>intro _;rw[c];exact aZ _
  |succ i ih=>
   intro a;have:=IL (d i (by omega));have:=ih (by omega);omega
 refine⟨fun i=>if i≤k then g i else s',fun i=>if i≤k then 0 else e, ?_, ?_, ?_,fun i a=>⟨bF a, ?_, ?_⟩⟩
 ·show(if 0≤k then g 0 else s')=E5
  rw[bF (cN _),c]
 ·exact aO (by omega)
 ·exact aO (by omega)
 ·show(if i≤k then g i else s').st≤_
  rw[bF a];exact n i a
 show nB W inp (if i≤k then g i else s')=some ((if i+1≤k then 0 else e),(if i+1≤k then g (i+1)else s'));rw[bF a];by_cases h:i+1≤k
 ·rw[bF h,bF h];exact d i (by omega)
 have :i=k:=by omega
 subst this;rw[aO h,aO h,f];exact l
theorem UP (W:List Int) (inp:dE) (D:Nat) (p:Int) (k:Nat) (e:Int) (s:Mc) (O:D=4224) (P:W.length≤20000) (X: ∀w∈W,dQ w∧sU w) (T:inp.length≤2000000)
  (R:Fin W inp k E5 e s) (Q:e≠0) (U:k≤1000000000000) (S:(k:Int)+2≤p):
  eG dR 40 [.agg [.isl 1 (W.map gI), .int .i64 (D:Int)], .str inp, .agg [.int .i64 0, .int .u32 0, .int .u32 0, .int .u32 0, .int .u32 0, .int .u32 0, .int .u32 0, .int .u32 0, .int .u32 0, .int .u32 0, .int .u32 0, .int .u32 0, .int .u32 0, .int .u32 0, .int .u32 0, .int .u32 0, .int .u32 0, .isl 1 (List.replicate D [.int .u32 0]), .int .i64 0, .str [], .int .i64 0, .int .i64 0], .int .i64 p] (.agg (O1 s (.isl 1 (s.mem.map gI)) e)):=by
 obtain⟨G,L,N,V,H,A⟩:=MJ R;have u:=MK W inp D p G L k O P X T N (fun i x=>⟨(A i x).1,by have:=(A i x).2.1;omega,(A i x).2.2⟩) (by rw[H];exact Q) U S;rw[V,H]at u;unfold O1 at u⊢;refine bU 20 [.cell 8 93] func40 ?_;refine aA fun K a=>?_;simp only[RR,seval];refine aN fun g a7=>?_;simp only[RR,seval];refine aN fun j I=>?_;have Z:j≠g:=fun e=>by rw[e]at I;simp only[RR,seval,reduceCtorEq]at I
 have J:=Z.symm;simp only[RR,seval];refine aN fun l n=>?_;have a1:l≠g:=fun e=>by rw[e]at n;simp only[J,RR,seval,reduceCtorEq]at n
 have Y:=a1.symm;have a2:l≠j:=fun e=>by rw[e]at n;simp only[RR,seval,reduceCtorEq]at n
 have a0:=a2.symm;simp only[RR,seval];refine a _ _ (bN fun F1 M1 f t=>?_);have B:=f 1;have C:=f 3;have E:=f 4;have F:=f 6;have o:=f 8;have b:=t g;have c:=t j;have d:=t l;simp only[J,Y,a0,RR,seval]at B C E F o b c d;refine aA fun K a=>?_;simp only[B,C,E,F,b,c,RR,seval];refine KU u (fun v e=>by obtain⟨_,h⟩:=e;cases h) fun v M ⟨vc,e⟩ y=>?_;cases e;have b:=y g _ b;have c:=y j _ c;have d:=y l _ d;simp only[RR,seval];refine aN fun b9 z=>?_;have a4:=cR z b;have a8:=a4.symm;have a5:=cR z c;have a9:=a5.symm;have a6:=cR z d;have a3:=a6.symm;simp only[RR,seval];refine a _ _ (aA fun K a=>?_);simp only[o,d,a3,RR,seval];apply a;refine aP ?_;simp only[aY,aK,bP,o,RR,seval];refine bB.pure ?_;rfl
theorem BO (W:List Int) (inp:dE) (D:Nat) (y:Int) (k:Nat) (e:Int) (s:Mc) (R:D=4224) (S:W.length≤20000) (Y: ∀w∈W,dQ w∧sU w) (V:inp.length≤2000000)
  (T:Fin W inp k E5 e s) (O:e≠0) (X:k≤1000000000000) (U:(k:Int)+2≤y):
  eG dR 19 [.agg [.isl 1 (W.map gI), .int .i64 (D:Int)], .str inp, .int .i64 y] (.agg [.int .i64 e, .str s.out, .int .i64 s.st]):=by
 have N:=BN W D (by omega);have t:=UP W inp D y k e s R S Y V T O X U;have Z:decide (e=0)=false:=bI O;unfold O1 at t;refine bU 25 [.cell 6 40] func19 ?_;refine aA fun K g=>?_;simp only[RR,seval];refine aN fun l a3=>?_;simp only[RR,seval];refine aN fun n P=>?_;have a1:n≠l:=fun e=>by rw[e]at P;simp only[RR,seval,reduceCtorEq]at P
 have a0:=a1.symm;simp only[RR,seval];refine g _ _ (bN fun Q A v L=>?_);have C:=v 1;have E:=v 2;have F:=v 3;have o:=v 6;have c:=L l;have a:=L n;simp only[a0,RR,seval]at C E F o c a;refine aG fun K g=>?_;refine gP (fun H M=>bC [6] Q H∧M l=A l∧M n=A n∧ ∃b,H 7= .ptr 22 b 0 0∧M b=some (.rows 22 [[.int .i64 s.pc, .int .u32 0, .int .u32 s.r1, .int .u32 s.r2, .int .u32 0, .int .u32 0, .int .u32 0, .int .u32 0, .int .u32 0, .int .u32 0, .int .u32 0, .int .u32 0, .int .u32 0, .int .u32 0, .int .u32 0, .int .u32 0, .int .u32 0, .isl 1 (s.mem.map gI), .int .i64 s.rd, .str s.out, .int .i64 s.st, .int .i64 e]])) (fun a2 z=>?_) ?_
 ·refine lM (fun x=>x≠l) eB (by kernel_rfl) fun hd=>?_
  refine hI [(0,0),(1,3),(2,0),(4,3)] hd (m:=4) rfl (by kernel_rfl) rfl rfl ?_;simp only[dI,fP,C,E,F,c,RR,seval];refine lE hd (by kernel_rfl:Region.ready .any _ _=[3,6]) (by simp) ⟨?_, ?_,trivial⟩
  ·simp only[RR,seval]
   refine aI (N) ?_;simp only[RR,seval];refine lE hd (by kernel_rfl:Region.ready .any _ _=[5,6]) (by simp) ⟨?_, ?_,trivial⟩
   ·simp only[RR,seval]
    refine aI (t) ?_;simp only[RR,seval];refine hI [(6,1),(7,1)] hd (m:=0) rfl (by kernel_rfl) rfl rfl ?_;simp only[dI,RR,seval];refine aN fun b d=>?_;have f:=cR d c;have p:=f.symm;have i:=cR d a;have j:=i.symm;simp only[f,RR,seval];refine jJ (by kernel_rfl) ?_;simp only[RR,seval];exact z _ _ ⟨(by repeat (first|exact bC.refl _ _|refine bC.upd rfl ?_)),(by(simp only[c,p,aS,seval];done)),(by(simp only[a,j,aS,seval];done)),b,(by rfl),(by(simp only[aS,seval];done))⟩
   simp only[RR,seval];refine aN fun b d=>?_;have f:=cR d c;have p:=f.symm;have i:=cR d a;have j:=i.symm;simp only[RR,seval];refine hI [(5,1),(7,1)] hd (m:=0) rfl (by kernel_rfl) rfl rfl ?_;simp only[dI,RR,seval];refine aI (t) ?_;simp only[f,RR,seval];refine jJ (by kernel_rfl) ?_;simp only[RR,seval];exact z _ _ ⟨(by repeat (first|exact bC.refl _ _|refine bC.upd rfl ?_)),(by(simp only[c,p,aS,seval];done)),(by(simp only[a,j,aS,seval];done)),b,(by rfl),(by(simp only[aS,seval];done))⟩
  simp only[RR,seval];refine aN fun b d=>?_;have f:=cR d c;have p:=f.symm;have i:=cR d a;have j:=i.symm;simp only[RR,seval];refine hI [(3,1),(5,1),(7,1)] hd (m:=0) rfl (by kernel_rfl) rfl rfl ?_;simp only[dI,RR,seval];refine aI (N) ?_;simp only[RR,seval];refine aI (t) ?_;simp only[f,RR,seval];refine jJ (by kernel_rfl) ?_;simp only[RR,seval];exact z _ _ ⟨(by repeat (first|exact bC.refl _ _|refine bC.upd rfl ?_)),(by(simp only[c,p,aS,seval];done)),(by(simp only[a,j,aS,seval];done)),b,(by rfl),(by(simp only[aS,seval];done))⟩
 rintro F2 M2 ⟨B,I,J,b,G,u⟩;simp only[iM];apply g;have o:=(B 6 rfl).trans o;have c:=I.trans c;have a:=J.trans a;clear B I J;have i:b≠n:=fun e=>by rw[e,a]at u;cases u
 have j:=i.symm;refine aH (aA fun K g=>?_);simp only[G,u,Z,RR,seval];refine g _ _ (bK ?_);refine aL ?_;simp only[RR];refine aA fun K g=>?_;simp only[o,G,a,u,RR,seval];apply g;refine aP ?_;simp only[aY,aK,bP,o,RR,seval];refine bB.pure ?_;rfl
theorem V1 (s:dE) (n:Nat) (N:n≤1000000) (b a c d:UInt8) (I:s[n]?=some b) (J:s[n+1]?=some a) (L:s[n+2]?=some c) (M:s[n+3]?=some d):
  eG dR 47 [.str s, .int .i64 (n:Int)] (.int .u32 ((b.toNat:Int)+256 *(a.toNat:Int)+65536 *(c.toNat:Int)+16777216 *(d.toNat:Int))):=by
 have O:=b.toNat_lt;have P:=a.toNat_lt;have Q:=c.toNat_lt;have R:=d.toNat_lt;have j:(0:Int)≤(n:Int):=by omega
 have k:IntKind.wrap .i64 ((n:Int)+1)=((n+1:Nat):Int):=by rw[aU _ (by omega)];omega
 have l:IntKind.wrap .i64 ((n:Int)+2)=((n+2:Nat):Int):=by rw[aU _ (by omega)];omega
 have o:IntKind.wrap .i64 ((n:Int)+3)=((n+3:Nat):Int):=by rw[aU _ (by omega)];omega
 have B:(0:Int)≤((n+1:Nat):Int):=by omega
 have C:(0:Int)≤((n+2:Nat):Int):=by omega
 have D:(0:Int)≤((n+3:Nat):Int):=by omega
 have E:((n:Int)).toNat=n:=cA n;have F:(((n+1:Nat):Int)).toNat=n+1:=cA _;have G:(((n+2:Nat):Int)).toNat=n+2:=cA _;have H:(((n+3:Nat):Int)).toNat=n+3:=cA _;have v:IntKind.wrap .u32 (b.toNat:Int)=(b.toNat:Int):=dX _ (by omega);have y:IntKind.wrap .u32 (a.toNat:Int)=(a.toNat:Int):=dX _ (by omega);have z:IntKind.wrap .u32 (c.toNat:Int)=(c.toNat:Int):=dX _ (by omega);have A:IntKind.wrap .u32 (d.toNat:Int)=(d.toNat:Int):=dX _ (by omega);have f:IntKind.wrap .u32 (256 *(a.toNat:Int))=256 *(a.toNat:Int):=dX _ (by omega);have g:IntKind.wrap .u32 (65536 *(c.toNat:Int))=65536 *(c.toNat:Int):=dX _ (by omega);have i:IntKind.wrap .u32 (16777216 *(d.toNat:Int))=16777216 *(d.toNat:Int):=dX _ (by omega);have p:IntKind.wrap .u32 ((b.toNat:Int)+256 *(a.toNat:Int))=(b.toNat:Int)+256 *(a.toNat:Int):=dX _ (by omega);have t:IntKind.wrap .u32 ((b.toNat:Int)+256 *(a.toNat:Int)+65536 *(c.toNat:Int))=(b.toNat:Int)+256 *(a.toNat:Int)+65536 *(c.toNat:Int):=dX _ (by omega);have u:IntKind.wrap .u32 ((b.toNat:Int)+256 *(a.toNat:Int)+65536 *(c.toNat:Int)+16777216 *(d.toNat:Int))=(b.toNat:Int)+256 *(a.toNat:Int)+65536 *(c.toNat:Int)+16777216 *(d.toNat:Int):=dX _ (by omega);refine bU 30 [.tmp 4] func47 ?_;refine aA fun K e=>?_;simp only[RR,seval];refine e _ _ (aG fun K e=>?_);refine bA (fun x=>True) [(0,3),(1,3),(2,3),(3,3),(4,3),(5,3),(6,3),(7,3),(8,3),(9,3),(10,3),(11,3),(12,3),(13,3),(14,3),(15,3),(16,3),(17,3),(18,3),(19,3),(20,3),(21,3),(22,3),(23,3),(24,3),(25,3)] [] eB (by kernel_rfl) rfl rfl ?_;simp only[*,dI,j,k,l,o,B,C,D,v,y,z,A,f,g,i,p,t,u,RR,seval];apply e;refine aP ?_;simp only[aY,aK,bP,RR,seval];refine bB.pure ?_;rfl
theorem Bo {L:List Int} {i:Nat} {x:Int} (h:L[i]?=some x) (a:dQ x) (b:i≤100000):eG dR 47 [.str (uZ L), .int .i64 ((4 *i:Nat):Int)] (.int .u32 x):=by
 have:=V1 (uZ L) (4 *i) (by omega) _ _ _ _ (qZ h 0 (by decide)) (qZ h 1 (by decide)) (qZ h 2 (by decide)) (qZ h 3 (by decide));rw[Rw,Rw,Rw,Rw]at this
 have e:x % 256+256 *(x/256 % 256)+65536 *(x/65536 % 256)+16777216 *(x/16777216 % 256)=x:=by
  have:=a.1;have:=a.2;omega
 rwa [e]at this
theorem LM (W:List Int) (hW:W.length≤16384) (c5: ∀w∈W,dQ w):eG dR 23 [.str (uZ ([1145390419,(W.length:Int),4224]++W))] (.tup [.agg [.isl 1 (W.map gI), .int .i64 4224], .int .i64 0]):=by
 have c2:eG dR 47 [.str (uZ ([1145390419,(W.length:Int),4224]++W)), .int .i64 4] (.int .u32 (W.length:Int)):=Bo (i:=1) rfl ⟨by omega,by omega⟩ (by decide);have c3:eG dR 47 [.str (uZ ([1145390419,(W.length:Int),4224]++W)), .int .i64 8] (.int .u32 4224):=Bo (i:=2) rfl ⟨by decide,by decide⟩ (by decide)
 have c4: ∀{k:Nat} {x:Int},W[k]?=some x→eG dR 47 [.str (uZ ([1145390419,(W.length:Int),4224]++W)), .int .i64 ((12+4 *k:Nat):Int)] (.int .u32 x):=fun {k x} h=>by
  have hk:=(bD.1 h).1;have:=Bo (L:=[1145390419,(W.length:Int),4224]++W) (i:=3+k) (x:=x) (by rw[gC (by show 3≤3+k;omega),show 3+k-[1145390419,(W.length:Int),4224].length=k by show 3+k- 3=k;omega];exact h) (c5 x (aW h)) (by omega);rwa [show 4 *(3+k)=12+4 *k by omega]at this
 have a8:(uZ ([1145390419,(W.length:Int),4224]++W))[0]?=some 83:=qZ (i:=0) (x:=1145390419) rfl 0 (by decide);have a9:(uZ ([1145390419,(W.length:Int),4224]++W))[1]?=some 69:=qZ (i:=0) (x:=1145390419) rfl 1 (by decide);have b0:(uZ ([1145390419,(W.length:Int),4224]++W))[2]?=some 69:=qZ (i:=0) (x:=1145390419) rfl 2 (by decide);have b1:(uZ ([1145390419,(W.length:Int),4224]++W))[3]?=some 68:=qZ (i:=0) (x:=1145390419) rfl 3 (by decide);have d7:(uZ ([1145390419,(W.length:Int),4224]++W)).length=12+4 *W.length:=by rw[Ha,aB];simp only[aJ,aT];omega
 generalize uZ ([1145390419,(W.length:Int),4224]++W)=s at *;have d0:decide ((s.length:Int)<12)=false:=bI (by omega);have d1:decide ((16384:Int)<(W.length:Int))=false:=bI (by omega);have X:IntKind.wrap .i64 (W.length:Int)=(W.length:Int):=aU _ (by omega);have d3:IntKind.wrap .i64 (4 *(W.length:Int))=4 *(W.length:Int):=aU _ (by omega);have d4:IntKind.wrap .i64 (12+4 *(W.length:Int))=12+4 *(W.length:Int):=aU _ (by omega);have d5:decide ((s.length:Int)=12+4 *(W.length:Int))=true:=cV (by omega);have d6:IntKind.wrap .i64 4224=4224:=rfl;have y0:(((83:UInt8).toNat:Nat):Int)=83:=rfl;have y1:(((69:UInt8).toNat:Nat):Int)=69:=rfl;have y2:(((68:UInt8).toNat:Nat):Int)=68:=rfl;refine bU 72 [.cell 2 36, .tmp 3] func23 ?_;refine aA fun K g=>?_;simp only[RR,seval];refine aN fun t d8=>?_;simp only[RR,seval];refine g _ _ (aH (aA fun K g=>?_));simp only[d0,a8,a9,b0,b1,RR,seval];refine g _ _ (bK ?_);refine aL ?_;simp only[RR];refine aA fun K g=>?_;simp only[RR,seval];refine aI (c2) ?_;simp only[RR,seval];refine g _ _ (aA fun K g=>?_);simp only[RR,seval];refine aI (c3) ?_;simp only[RR,seval];refine g _ _ (aH (aA fun K g=>?_));simp only[d1,X,d3,d4,d5,RR,seval];refine g _ _ (bK ?_);refine aL ?_;simp only[RR];refine aA fun K g=>?_;simp only[d6,RR,seval];refine aN fun u a2=>?_;have a5:u≠t:=fun e=>by rw[e]at a2;simp only[RR,seval,reduceCtorEq]at a2
 have S:=a5.symm;simp only[RR,seval];refine g _ _ (aH (aA fun K g=>?_));simp only[RR,seval];refine g _ _ (bN fun F1 M1 a j=>?_);have B:=a 0;have o:=a 2;have A:=a 3;have C:=a 4;have l:=a 6;have z:=a 7;have f:=j t;have d:=j u;simp only[S,RR,seval]at B o A C l z f d;refine aQ (eT [0,2,3,4,6] (W.length) (fun k fr M=>fr 7= .int .i64 (k:Nat)∧M t=M1 t∧ ∃v,dZ 1 v ((W.take k).map gI) M∧off v u∧M u=some (.rows 2 [[v, .int .i64 4224]])) ⟨z,rfl, .nsl, .inl ⟨rfl,rfl⟩,(fun s n e=>by cases e),d⟩ ?_);rintro k T M2 c8 ⟨Y,p,v,y,V,d⟩ J K0 a7;have B:=(J 0 rfl).trans B;have o:=(J 2 rfl).trans o;have A:=(J 3 rfl).trans A;have C:=(J 4 rfl).trans C;have l:=(J 6 rfl).trans l;have z:=Y;clear Y;have f:=p.trans f;have N:=bC.refl [0,2,3,4,6] T;have G:=p;clear J;refine aH (aA fun K g=>?_);simp only[C,z,X,RR,seval];refine g _ _ (aX ?_ ?_)<;>intro U
 ·have a1:k<W.length:=by have:=aD U;omega
  clear U;obtain⟨wd,a4⟩: ∃x,W[k]?=some x:=⟨_,aC a1⟩;have b7:=c4 a4;have e1:IntKind.wrap .i64 (4 *(k:Int))=4 *(k:Int):=aU _ (by omega);have e2:IntKind.wrap .i64 (12+4 *(k:Int))=((12+4 *k:Nat):Int):=by rw[aU _ (by omega)];omega
  have c1:(W.take (k+1)).map gI=(W.take k).map gI++[[.int .u32 wd]]:=by rw[List.take_add_one,a4,cP];rfl
  have c9:((W.take k).map gI).length=k:=by simp;omega
  refine aL ?_;simp only[RR];refine aH (aQ (bN fun F3 M3 a j=>?_));have O:=a 0;have D:=a 2;have E:=a 3;have P:=a 4;have F:=a 6;have Q:=a 7;have p:=j t;have H:=j u;simp only[B,o,A,C,l,z,f,d,RR,seval]at O D E P F Q p H;have N:bC [0,2,3,4,6] T F3:=bC.same a (by repeat (first|exact N|refine bC.upd rfl ?_));have G:=(j t).trans G;have y:=y.same j;have B:=O;have o:=D;have A:=E;have C:=P;have l:=F;have z:=Q;have f:=p;have d:=H;refine bA (fun x=>x≠u∧x≠t) [(0,3),(1,0),(2,3),(3,3),(4,3),(5,3),(6,1),(7,2),(8,1),(9,3)] [(10,1)] eB (by kernel_rfl) rfl rfl ?_;simp only[dI,fP,B,l,z,d,a5,e1,e2,RR,seval];refine aI (b7) ?_;simp only[RR,seval];refine jC y (by simp only[aF,aJ,aT];(simp only[dS];omega)) (fun b e=>by(repeat' apply And.intro)<;>(intro c;subst c;first|exact V _ _ e|exact y.nb' f (by decide) e)) fun c6 M4 R a0 b8=>?_;have a3:=b8 u V (by rw[d];exact bY _);simp only[l,RR,seval];have p:=a0 t _ f (by exact(y).nb' f (by decide));have G:=(p.trans f.symm).trans G;have f:=p;have H:=a0 u _ d (by exact(y).nb' d (by decide));have d:=H;have b5:=R.cells;have c0:=R.one1;simp only[b5,c0,bX,List.drop,d,RR,seval];refine bN fun F5 M5 a j=>?_;have O:=a 0;have D:=a 2;have E:=a 3;have P:=a 4;have F:=a 6;have Q:=a 7;have p:=j t;have d:=j u;simp only[B,o,A,C,l,z,f,S,RR,seval]at O D E P F Q p d;have N:bC [0,2,3,4,6] T F5:=bC.same a (by repeat (first|exact N|refine bC.upd rfl ?_));have G:=(j t).trans (by(simp only[S,aS,seval];exact G));have R:=(R.off a3 _).same j;have B:=O;have o:=D;have A:=E;have C:=P;have l:=F;have z:=Q;have f:=p;refine aM ?_;simp only[z,RR,seval];rw[aU _ (by omega)];refine a7 _ _ a1 ⟨by rfl,G,c6,(by rw[c1];exact R),a3,d⟩ (by repeat (first|exact N|refine bC.upd rfl ?_))
 have b9:k=W.length:=by have:=aE U;omega
 rw[b9,dV]at y;refine cH ?_;simp only[RR,seval];refine bN fun F6 M6 a j=>?_;have D:=a 2;have E:=a 3;have F:=a 6;have p:=j t;have H:=j u;simp only[o,A,l,f,d,RR,seval]at D E F p H;have y:=y.same j;have o:=D;have A:=E;have l:=F;have f:=p;have d:=H;have h0:M6 u=some (.rows 2 [[]++v::[.int .i64 4224]]):=d;refine iE y h0 (fun x I=>by cases I) (fun x I=>by simp only[bE]at I;subst I;exact bS rfl) V fun c7 a6 Z b3 b4=>?_;have o:=(Z 2 (by rw[o];exact bS rfl)).trans o;have l:=(Z 6 (by rw[l];exact bS rfl)).trans l;have f:=b4 t _ _ S (y.offsz f (by decide)) (fun r hr x I=>by simp only[bE]at hr;subst hr;simp only[bJ,bL,dD]at I;rcases I with rfl|rfl<;>exact bS rfl) f;have d:a6 u=some (.rows 2 [[.isl 1 (W.map gI), .int .i64 4224]]):=b3;refine aA fun K g=>?_;simp only[o,l,f,d,RR,seval];apply g;refine aP ?_;simp only[aY,aK,bP,o,RR,seval];refine bB.pure ?_;rfl
theorem mX {q:Nat} {c:Int} {z:Zs} (h: ∀w∈vT (q:Int) c z,QT w):Kw q z [c]:=by
 unfold Kw;rw[eJ];exact h
theorem UN (q:Nat) (z:Zs):Kw q z []:=fun w a=>by cases a
theorem XA (n:Nat): ∀(q d:Nat),d≤200→n<4294967296→Kw q (zl d 0) (jP (Lib.decDigits n)):=by
 induction n using Nat.strongRecOn with
 |_ n ih=>
  intro q d hd f
  have one: ∀k:Nat,k<10→jP [UInt8.ofNat (48+k)]=[((48+k:Nat):Int)]:=fun k e=>by
   simp only[jP,cX,dH];rw[UInt8.toNat_ofNat',Nat.mod_eq_of_lt (by omega)]
  rw[Lib.decDigits];split
  ·rename_i h
   have z:=L8 (q:=(q:Int)) (c:=((48+n:Nat):Int)) (d:=(d:Int)) (s:=1880096768) (m:=0) (by omega) (by omega) (by omega);rw[one n h];refine mX ?_;rw[z.1];exact lU (by omega) (by omega) (pL (by decide) (by decide) (by decide))
  rename_i h;have a:n % 10<10:=sF _ (by decide);obtain⟨b,_⟩:=S4 (W:=[]) (n/10) q d (by omega) (by omega);have z:=L8 (q:=((q+(jP (Lib.decDigits (n/10))).length:Nat):Int)) (c:=((48+n % 10:Nat):Int)) (d:=(d:Int)) (s:=1880096768) (m:=((n/10:Nat):Int)) (by omega) (by omega) (by omega);rw[jI,one _ a];refine(ih (n/10) (by omega) q d hd (by omega)).app ?_;rw[b];refine mX ?_;rw[z.1];exact lU (by omega) (by omega) (pL (by decide) (by decide) (by decide))
section
variable {V : UInt8 → Prop} {A : Prop}
theorem UR {i:Int} {e:Ex} (h:SX V A i e): ∀(q d:Nat),(d:Int)≤i→Kw q (zl d 0) (jP (fL e)):=by
 induction h with
 |num i n hl h=>
  intro q d hd;have f:fL (.mk 1 0 n [] [])=Lib.decDigits n.toNat++[32]:=by simp [fL,iI,hY]
  have l:n.toNat<4294967296:=by have:=h.1;have:=h.2;omega
  obtain⟨t,_⟩:=S4 (W:=[]) n.toNat q d (by omega) l;rw[f,jI];refine(XA n.toNat q d (by omega) l).app ?_;rw[t];show Kw _ _ [32];refine mX ?_;rw[(CE (by omega) (by omega)).1];intro w j;simp only[bJ,bL,dD]at j;rcases j with rfl|rfl|rfl|rfl<;>exact wB (by decide) (by decide) (by decide) (by omega)
 |var i c hl h hV=>
  intro q d hd;have f:fL (.mk 2 0 0 [c] [])=[c]:=by simp [fL,iI,hY]
  have k:97≤c.toNat∧c.toNat≤122:=by simp only[Ny,aV,bH]at h;exact h
  rw[f];show Kw _ _ [(c.toNat:Int)];refine mX ?_;rw[(RI (by omega) (by omega)).1];exact lU (by omega) (by omega) (wB (by decide) (by decide) (by decide) (by omega))
 |idx i a hl hA ha ih=>
  intro q d hd;have f:fL (.mk 3 0 0 [116] [a])=fL a++[64]:=by rw[fL,sC];simp [hY]
  rw[f,jI];refine(ih q d (by omega)).app ?_;rw[lO ha q d (by omega)];show Kw _ _ [64];refine mX ?_;rw[(RJ (by omega)).1];intro w j;simp only[bJ,bL,dD]at j;rcases j with rfl|rfl|rfl|rfl<;>exact wB (by decide) (by decide) (by decide) (by omega)
 |get i hl=>
  intro q d hd;have f:fL (.mk 5 0 0 [] [])=[63]:=by simp [fL,iI,hY]
  rw[f];show Kw _ _ [63];refine mX ?_;rw[(pS (A:=1997537280) (X:=gB 23 1 0 0) (g:=3) (by decide) (by decide) (by decide) (by decide) (by decide) (by decide) (by omega) (by omega)).1];exact lU (by omega) (by omega) (pL (by decide) (by decide) (by decide))
 |neg i a hl ha ih=>
  intro q d hd;have f:fL (.mk 7 0 0 [] [a])=fL a++[33]:=by rw[fL,sC];simp [hY]
  rw[f,jI];refine(ih q d (by omega)).app ?_;rw[lO ha q d (by omega)];show Kw _ _ [33];refine mX ?_;rw[(pS (A:=1326579712) (X:=gB 15 1 2 0) (g:=2) (by decide) (by decide) (by decide) (by decide) (by decide) (by decide) (by omega) (by omega)).1];exact lU (by omega) (by omega) (pL (by decide) (by decide) (by decide))
 |op i o a b hl h ha hb iha ihb=>
  intro q d hd;obtain⟨c,k,p⟩:=RH h;have f:fL (.mk 6 o 0 [] [a,b])=fL a++(fL b++[c]):=by rw[fL,Vx];simp [hY,k]
  rw[f,jI,jI];refine(iha q d (by omega)).app ?_;rw[lO ha q d (by omega)];refine(ihb _ (d+1) (by omega)).app ?_;rw[lO hb _ (d+1) (by omega)];show Kw _ _ [(c.toNat:Int)];refine mX ?_;rw[(p (by omega)).1];exact lU (by omega) (by omega) (SU h)
theorem XJ {N:Nat}: ∀{l:List Sm} {q d:Nat},(∀m∈l, ∀q,q+(nY m).length≤N→Kw q (zl d 0) (yL q m)∧(iK (yL q m) q (zl d 0)).1=zl (d:Int) 0∧(yL q m).length=(nY m).length)→q+(iL l).length≤N→Kw q (zl d 0) (pY q l)
 |[],q,_,_,_=>UN q _
 |m::l,q,d,h,hq=>by
  rw[iL,aB]at hq;obtain⟨a,b,c⟩:=h m (dN) q (by omega);rw[pY];refine a.app ?_;rw[b,c];exact XJ (fun x e=>h x (eR _ e)) (by omega)
theorem ZC {N:Nat} (k:N≤3000) {i:Int} {m:Sm} (h:SS V A i m): ∀(q d:Nat),(d:Int)+1≤i→q+(nY m).length≤N→Kw q (zl d 0) (yL q m):=by
 induction h with
 |set i c e hl hc hV he=>
  intro q d hd b;have n:97≤c.toNat∧c.toNat≤122:=by simp only[Ny,aV,bH]at hc;exact hc
  rw[Z0];refine(UR he q d (by omega)).app ?_;rw[lO he q d (by omega)];refine Kw.app (mX ?_) ?_
  ·rw[(Vm (by omega)).1]
   exact lU (by omega) (by omega) (pL (by decide) (by decide) (by decide))
  rw[eJ 58,(Vm (by omega)).2];refine mX ?_;rw[(RG (by omega) (by omega)).1];exact lU (by omega) (by omega) (wB (by decide) (by decide) (by decide) (by omega))
 |store i a e hl hA ha he=>
  intro q d hd b;rw[Y9];refine(UR ha q d (by omega)).app ?_;rw[lO ha q d (by omega)];refine(UR he _ (d+1) (by omega)).app ?_;rw[lO he _ (d+1) (by omega)];refine mX ?_;rw[(B0 (by omega)).1];intro w j;simp only[bJ,bL,dD]at j;rcases j with rfl|rfl|rfl|rfl<;>exact wB (by decide) (by decide) (by decide) (by omega)
 |put i e hl he=>
  intro q d hd b;rw[Y8];refine(UR he q d (by omega)).app ?_;rw[lO he q d (by omega)];refine mX ?_;rw[(pS (A:=941621248) (X:=gB 24 2 0 0) (g:=1) (by decide) (by decide) (by decide) (by decide) (by decide) (by decide) (by omega) (by omega)).1];exact lU (by omega) (by omega) (pL (by decide) (by decide) (by decide))
 |cond i e t hl he ht ih=>
  intro q d hd b;rw[C3]at b;simp only[aB,aJ,aT]at b;have l:=LU (N:=N) (q:=q+(fL e).length+1) (d:=d) (fun m f q b=>⟨LQ k (ht m f) q d (by omega) b,jL (ht m f) q⟩) (by omega);have j:=XJ (N:=N) (q:=q+(fL e).length+1) (d:=d) (fun m f q b=>⟨ih m f q d (by omega) b,LQ k (ht m f) q d (by omega) b,jL (ht m f) q⟩) (by omega);rw[Y7];refine(UR he q d (by omega)).app ?_;rw[lO he q d (by omega),gD];refine Kw.app (mX ?_) ?_
  ·rw[(Nk (by omega) (by omega)).1]
   exact lU (by omega) (by omega) (wB (by decide) (by decide) (by decide) (by omega))
  rw[eJ,(Nk (by omega) (by omega)).2,show(((d+1:Nat):Int)- 1)=(d:Int)by omega];refine Kw.app j ?_;rw[show q+(fL e).length+[857735172+4 *((q+(fL e).length+1+(iL t).length:Nat):Int)].length=q+(fL e).length+1 from rfl,l];refine mX ?_;rw[(pS (A:=1125253120) (X:=gB 3 1 2 0) (g:=2) (by decide) (by decide) (by decide) (by decide) (by decide) (by decide) (by omega) (by omega)).1];exact lU (by omega) (by omega) (pL (by decide) (by decide) (by decide))
 |loop i e t hl he ht ih=>
  intro q d hd b;rw[C2]at b;simp only[aB,aJ,aT]at b;have l:=LU (N:=N) (q:=q+1+(fL e).length+1) (d:=d+1) (fun m f q b=>⟨LQ k (ht m f) q (d+1) (by omega) b,jL (ht m f) q⟩) (by omega);have j:=XJ (N:=N) (q:=q+1+(fL e).length+1) (d:=d+1) (fun m f q b=>⟨ih m f q (d+1) (by omega) b,LQ k (ht m f) q (d+1) (by omega) b,jL (ht m f) q⟩) (by omega);rw[Y6];refine Kw.app (mX ?_) ?_
  ·rw[(Vl (by omega) (by omega)).1]
   exact lU (by omega) (by omega) (wB (by decide) (by decide) (by decide) (by omega))
  rw[eJ,(Vl (by omega) (by omega)).2];rw[show zl ((d:Int)+1) 0=zl ((d+1:Nat):Int) 0 from rfl,show q+[(87:Int)].length=q+1 from rfl];refine(UR he (q+1) (d+1) (by omega)).app ?_;rw[lO he (q+1) (d+1) (by omega),gD];refine Kw.app (mX ?_) ?_
  ·rw[(Nk (by omega) (by omega)).1]
   exact lU (by omega) (by omega) (wB (by decide) (by decide) (by decide) (by omega))
  rw[eJ,(Nk (by omega) (by omega)).2,show(((d+1+1:Nat):Int)- 1)=((d+1:Nat):Int)by omega];refine Kw.app j ?_;rw[show q+1+(fL e).length+[857735172+4 *((q+1+(fL e).length+1+(iL t).length:Nat):Int)].length=q+1+(fL e).length+1 from rfl,l];refine mX ?_;rw[(pS (A:=908066816) (X:=gB 22 2 0 0) (g:=1) (by decide) (by decide) (by decide) (by decide) (by decide) (by decide) (by omega) (by omega)).1];exact lU (by omega) (by omega) (pL (by decide) (by decide) (by decide))
end
theorem Na (n:Nat): ∀l:List Ex,pB l≤n→n≤1000000000000→eG dR 78 [.isl 5 (l.map Ex.row)] (.int .i64 ((pB l:Nat):Int)):=by
 induction n using Nat.strongRecOn with
 |_ n ih=>
  intro l S P;have H:=QX l;refine bU 22 [.tmp 2] func78 ?_;refine aA fun K c=>?_;simp only[RR,seval];refine c _ _ (aA fun K c=>?_);simp only[aF,RR,seval];refine c _ _ (aH (aA fun K c=>?_));simp only[RR,seval];refine c _ _ (bN fun I L i O=>?_);have g:=i 0;have p:=i 2;have d:=i 3;have f:=i 4;simp only[RR,seval]at g p d f;refine aQ (eT [0,2] (l.length) (fun k v M=>v 4= .int .i64 (k:Nat)∧v 3= .int .i64 ((l.length+kE (l.take k):Nat):Int)) ⟨f,d⟩ ?_);rintro k y N R ⟨x,d⟩ o J A;have g:=(o 0 rfl).trans g;have p:=(o 2 rfl).trans p;have f:=x;clear x;have z:=bC.refl [0,2] y;clear o;refine aH (aA fun K c=>?_);simp only[g,f,aF,RR,seval];refine c _ _ (aX ?_ ?_)<;>intro t
  ·have j:k<l.length:=by have:=aD t;omega
   clear t;have B:=qO (aC j);have u:l.take (k+1)=l.take k++[l[k]]:=bQ j;have F:=nM (bZ j);have E:=Q5 l (k+1);generalize l[k]=e at B u F;have Q:=e.sz_eq;rw[u,Tn]at E;have C:=ih (pB e.kids) (by omega) e.kids (aZ _) (by omega);have G:=qY (a:=l.length+kE (l.take k)) (b:=pB e.kids) (by omega);refine aL ?_;simp only[RR];refine aH (aQ (aM ?_));simp only[*,RR,seval];refine aI (C) ?_;simp only[G,RR,seval];refine aM ?_;simp only[f,RR,seval];rw[aU _ (by omega)];refine A _ _ j ⟨by rfl,by rw[u,Tn];(simp only[aS,seval];congr 1;omega)⟩ (by repeat (first|exact z|refine bC.upd rfl ?_))
  have D:k=l.length:=by have:=aE t;omega
  rw[D,dV,←H]at d;refine cH ?_;simp only[RR,seval];refine aA fun K c=>?_;simp only[d,RR,seval];apply c;refine aP ?_;simp only[aY,aK,bP,RR,seval];refine bB.pure ?_;rfl
theorem Me (n:Nat): ∀l:List Sm,lQ l≤n→n≤1000000000000→eG dR 53 [.isl 5 (l.map Sm.row)] (.int .i64 ((lQ l:Nat):Int)):=by
 induction n using Nat.strongRecOn with
 |_ n ih=>
  intro l X U;have O:=QW l;refine bU 36 [.tmp 2] func53 ?_;refine aA fun K c=>?_;simp only[RR,seval];refine c _ _ (aA fun K c=>?_);simp only[aF,RR,seval];refine c _ _ (aH (aA fun K c=>?_));simp only[RR,seval];refine c _ _ (bN fun P R i T=>?_);have g:=i 0;have p:=i 2;have d:=i 3;have f:=i 4;simp only[RR,seval]at g p d f;refine aQ (eT [0,2] (l.length) (fun k v M=>v 4= .int .i64 (k:Nat)∧v 3= .int .i64 ((l.length+kS (l.take k):Nat):Int)) ⟨f,d⟩ ?_);rintro k z S W ⟨y,d⟩ o Q B;have g:=(o 0 rfl).trans g;have p:=(o 2 rfl).trans p;have f:=y;clear y;have A:=bC.refl [0,2] z;clear o;refine aH (aA fun K c=>?_);simp only[g,f,aF,RR,seval];refine c _ _ (aX ?_ ?_)<;>intro t
  ·have j:k<l.length:=by have:=aD t;omega
   clear t;have C:=Oa (aC j);have u:l.take (k+1)=l.take k++[l[k]]:=bQ j;have F:=nA (bZ j);have E:=Q3 l (k+1);generalize l[k]=e at C u F;have V:=e.sz_eq;rw[u,Tm]at E;have N:=Na (pB e.es) e.es (aZ _) (by omega);have G:=ih (lQ e.thn) (by omega) e.thn (aZ _) (by omega);have H:=ih (lQ e.els) (by omega) e.els (aZ _) (by omega);have I:=qY (a:=l.length+kS (l.take k)) (b:=pB e.es) (by omega);have J:=qY (a:=l.length+kS (l.take k)+pB e.es) (b:=lQ e.thn) (by omega);have L:=qY (a:=l.length+kS (l.take k)+pB e.es+lQ e.thn) (b:=lQ e.els) (by omega);refine aL ?_;simp only[RR];refine aH (aQ (bA (fun x=>True) [(0,3),(1,3),(2,3),(3,3),(4,3),(5,1),(8,3),(9,3),(10,3),(11,3),(12,0),(15,3),(16,3),(17,3),(18,3),(19,0),(6,1),(7,3),(13,1),(14,3),(20,1),(21,3),(22,3)] [] eB (by kernel_rfl) rfl rfl ?_));simp only[*,dI,fP,qC,reduceCtorEq,false_implies,forall_const,true_and,RR,seval];refine aI (N) ?_;simp only[I,RR,seval];refine aI (G) ?_;simp only[J,RR,seval];refine aI (H) ?_;simp only[L,RR,seval];refine aM ?_;simp only[f,RR,seval];rw[aU _ (by omega)];refine B _ _ j ⟨by rfl,by rw[u,Tm];(simp only[aS,seval];congr 1;omega)⟩ (by repeat (first|exact A|refine bC.upd rfl ?_))
  have D:k=l.length:=by have:=aE t;omega
  rw[D,dV,←O]at d;refine cH ?_;simp only[RR,seval];refine aA fun K c=>?_;simp only[d,RR,seval];apply c;refine aP ?_;simp only[aY,aK,bP,RR,seval];refine bB.pure ?_;rfl
theorem LK (p:Pg) (hv:p.vars.length≤10000) (Z:p.arrs.length≤10000) (B:p.funs.length≤10000) (d: ∀f∈p.funs,I4 f≤10000000):eG dR 26 [p.av] (.int .i64 ((Ia p:Nat):Int)):=by
 have V:Ia p=p.vars.length+p.arrs.length+p.funs.length+zA p.funs:=rfl;generalize Ia p=a7 at *;have J:p.av= .agg p.row:=rfl;have Q:p.row=[.isl 1 (p.vars.map bT), .isl 2 (p.arrs.map Ar.row), .isl 5 (p.funs.map Fu.row)]:=rfl;rw[J,Q];have S:=qY (a:=p.vars.length) (b:=p.arrs.length) (by omega);have T:=qY (a:=p.vars.length+p.arrs.length) (b:=p.funs.length) (by omega);refine bU 49 [.tmp 2] func26 ?_;refine aA fun K c=>?_;simp only[RR,seval];refine aN fun j a3=>?_;simp only[RR,seval];refine c _ _ (aA fun K c=>?_);simp only[aF,S,T,RR,seval];refine c _ _ (aH (aA fun K c=>?_));simp only[RR,seval];refine c _ _ (bN fun W E o H=>?_);have l:=o 1;have v:=o 2;have g:=o 3;have i:=o 4;have n:=H j;simp only[RR,seval]at l v g i n;refine aQ (eT [1,2] (p.funs.length) (fun k y M=>y 4= .int .i64 (k:Nat)∧M j=E j∧y 3= .int .i64 ((p.vars.length+p.arrs.length+p.funs.length+zA (p.funs.take k):Nat):Int)) ⟨i,rfl,g⟩ ?_);rintro k D Y a2 ⟨z,A,g⟩ u X I;have l:=(u 1 rfl).trans l;have v:=(u 2 rfl).trans v;have i:=z;clear z;have n:=A.trans n;have F:=bC.refl [1,2] D;have G:=A;clear u;refine aH (aA fun K c=>?_);simp only[l,i,n,aF,RR,seval];refine c _ _ (aX ?_ ?_)<;>intro d
 ·have t:k<p.funs.length:=by have:=aD d;omega
  clear d;have N:=tP (aC t);have C:p.funs.take (k+1)=p.funs.take k++[p.funs[k]]:=bQ t;have a6:=N9 10000000 (p.funs.take k) (fun f B=>d f (List.mem_of_mem_take B));have R:(p.funs.take k).length≤10000:=by rw[dS];omega
  have L:=d _ (bZ t);generalize p.funs[k]=e at N C L;have a1:I4 e=e.params.length+e.locs.length+lQ e.body:=rfl;have a0:(p.funs.take k).length *10000000≤10000 *10000000:=gA _ R;have U:=Me (lQ e.body) e.body (aZ _) (by omega);have a4:=qY (a:=p.vars.length+p.arrs.length+p.funs.length+zA (p.funs.take k)) (b:=e.params.length) (by omega);have a5:=qY (a:=p.vars.length+p.arrs.length+p.funs.length+zA (p.funs.take k)+e.params.length) (b:=e.locs.length) (by omega);have P:=qY (a:=p.vars.length+p.arrs.length+p.funs.length+zA (p.funs.take k)+e.params.length+e.locs.length) (b:=lQ e.body) (by omega);refine aL ?_;simp only[RR];refine aH (aQ (bA (fun x=>x≠j) [(0,3),(1,3),(2,0),(3,3),(4,3),(5,3),(6,0),(7,3),(8,3),(9,3),(10,0),(11,3),(12,3),(13,3),(14,0),(15,3),(16,3),(17,3),(18,1),(19,3),(20,3),(21,3),(22,1),(23,1),(24,3),(25,3)] [] eB (by kernel_rfl) rfl rfl ?_));simp only[*,dI,fP,aF,RR,seval];refine aI (U) ?_;simp only[P,RR,seval];refine aM ?_;simp only[i,RR,seval];rw[aU _ (by omega)];refine I _ _ t ⟨by rfl,G,by rw[C,Ov];(simp only[aS,seval];congr 1;omega)⟩ (by repeat (first|exact F|refine bC.upd rfl ?_))
 have O:k=p.funs.length:=by have:=aE d;omega
 rw[O,dV,←V]at g;refine cH ?_;simp only[RR,seval];refine aA fun K c=>?_;simp only[g,RR,seval];apply c;refine aP ?_;simp only[aY,aK,bP,RR,seval];refine bB.pure ?_;rfl
section
open Go.Al Go.ChangeShapes Go.WideShapes
structure Zz (p:Pg):Prop where
 ok:p.ok
 fs: ∀f∈p.funs,f.params.length≤1100000∧f.locs.length≤1100000∧lQ f.body≤1000000
theorem Zz.few {p:Pg} (h:Zz p) (e:p.vars.length≤40) (d:p.arrs.length≤4) (b:fZ p=true):p.few:=by
 simp only[fZ,aV,bH,cI]at b;refine⟨h.ok,by omega,by omega,by omega,fun f a=>?_⟩;have:=h.fs f a;have c:=b.2 f a;simp only[lC,aV,bH]at c;omega
def Ag {α:Type} (m:α→Nat):List α→Nat
 |[]=>0
 |a::l=>m a+Ag m l
theorem Js {H:Type} (d:DataW H):1≤Rows.uptoBulk d:=by
 cases d with
 |lit l=>cases l<;>simp [Rows.uptoBulk]
 |nil=>simp [Rows.uptoBulk]
 |ptr d=>simp [Rows.uptoBulk]
 |slice elems spare=>simp [Rows.uptoBulk]
 |agg parts=>simp [Rows.uptoBulk]
 |iface t d=>simp [Rows.uptoBulk]
 |map entries=>simp [Rows.uptoBulk]
 |held h=>simp [Rows.uptoBulk]
theorem KL {H:Type} (l:List (DataW H)):l.length≤Rows.uptoBulkAll l:=by
 induction l with
 |nil=>simp [Rows.uptoBulkAll]
 |cons x r ih=>have:=Js x;simp only[Rows.uptoBulkAll,aJ];omega
section
variable {H : Type} {enc : TypeId × Value → H} {P : Program} {w : World} {sp : Nat → Bool} {held : Bool}
theorem GM {c f:Type} (m:c→Nat): ∀(l:List c) (E:List (DataW H×f)),l.length=E.length→(∀(i:Nat) a y,l[i]?=some a→E[i]?=some y→m a≤Rows.uptoBulk y.1)→Ag m l≤Rows.uptoBulkAll (E.map (·.1))
 |[],_,_,_=>by simp [Ag]
 |a::l,[],h,_=>by simp at h
 |a::l,y::E,h,hm=>by
  have g:=hm 0 a y rfl rfl;have j:=GM m l E (by simpa using h) fun i b z d e=>hm (i+1) b z (by simpa using d) (by simpa using e);simp only[Ag,cX,Rows.uptoBulkAll];omega
theorem nI {f:Type} (m:f→Nat) {row:f→List AV} {ok:f→Prop} {t e:TypeId} {sz C:Nat} {cs:List Value} {x:DataW H×List MemPlace} (ht:P.underlying t=some (.slice e)) (W:P.cellsOf e=sz) (hz:0<sz)
  (a3: ∀a,(row a).length=sz) (h:DataW.trod enc P w 0 sp held C t cs=some x)
  (U: ∀n cs y,n<C→DataW.trod enc P w 0 sp held n e cs=some y→ ∃a:f,ok a∧cY (uF w) w (row a) cs∧m a≤Rows.uptoBulk y.1):
  ∃l:List f,eY l∧(∀a∈l,ok a)∧(Ag m l+1≤Rows.uptoBulk x.1∧l.length+1≤Rows.uptoBulk x.1)∧ ∃v,cs=[v]∧cB (uF w) w (.isl sz (l.map row)) v:=by
 rcases DataW.trod_slice ht h with⟨rfl,rfl⟩|⟨a,len,Q,z,b2,n,rfl,rfl,rfl,_,hl,G,a9,Z,_,_⟩
 ·refine⟨[],by simp [eY],by simp,⟨by simp [Ag,Rows.uptoBulk],by simp [Rows.uptoBulk]⟩,_,rfl, ?_⟩
  simp only[cB,dH];exact⟨none,0,rfl,aZ _,by simp [maxLen], .inl trivial⟩
 have a6: ∀i,i<len→ ∃b:f,ok b∧(∀y,z[i]?=some y→m b≤Rows.uptoBulk y.1)∧ ∃d:List Value,d.length=sz∧cY (uF w) w (row b) d∧ ∀j,j<sz→w.cell? ((a.add (i *sz)).add j)=d[j]?:=by
  intro i a1;have g:=Z i a1;rw[W,aC (by omega),cJ]at g;obtain⟨d,Y,hy⟩:=g;obtain⟨_,B,V⟩:=World.cells?_some Y;obtain⟨b,k,p,a5⟩:=U n d _ (by omega) hy;exact⟨b,k,(fun y L=>by rw[aC (by omega)]at L;cases L;exact a5),d,B,p,V⟩
 obtain⟨l,F,o⟩:=uR len a6;refine⟨l,by simp only[eY,F];simp only[maxLen]at G;omega,fun b k=>?_,⟨?_, ?_⟩,_,rfl, ?_⟩
 ·obtain⟨i,a0⟩:=gO k
  exact(o i b a0).1
 ·have b1:=GM m l z (by omega) fun i a y g A=>(o i a g).2.1 y A
  simp only[Rows.uptoBulk];omega
 ·have a4:=KL (z.map (·.1))
  rw[aF]at a4;simp only[Rows.uptoBulk];omega
 simp only[cB,aF,List.map_eq_nil_iff];refine⟨some a,Q,by rw[F],by omega,G, ?_⟩;by_cases I:l=[]
 ·exact .inl I
 right;obtain⟨u,M,rfl⟩: ∃u M,l=u::M:=by cases l with |nil=>exact absurd rfl I|cons b l=>exact⟨b,l,rfl⟩
 obtain⟨_,_,d,a8,_,X⟩:=o 0 u rfl;have c:=X 0 hz;rw[aC (by omega)]at c;simp only[Nat.zero_mul,Addr.add,cQ]at c
 have K:a.spot=none:=by
  unfold World.cell? at c;split at c
  ·split at c
   ·cases c
   rename_i J;cases hh:a.spot with |none=>rfl|some y=>rw[hh]at J;simp at J
  cases c
 have D:a.block<w.heap.size:=by
  unfold World.cell? at c;split at c
  ·rename_i e;exact(eM.1 e).1
  cases c
 obtain⟨N,O,a7⟩:=a;simp only at K D;subst K;refine⟨N,O,rfl,D,cZ.of_get fun i r p=>?_⟩;rw[cT,bG]at p;obtain⟨b,k,rfl⟩:=p;obtain⟨_,_,d,g,A,B⟩:=o i b k;refine⟨a3 b,eU.of_vals A fun j v E=>?_⟩;have a2:j<sz:=by have:=(bD.1 E).1;omega
 rw[←E,←B j a2];congr 1;simp only[Addr.add];by_cases R:i *sz=0<;>by_cases S:j=0<;>simp [R,S]
theorem sL {t:TypeId} {d:List (TypeId×Nat)} {g:Nat} {cs:List Value} {x:DataW H×List MemPlace} (b:nZ P t=some d) (h:DataW.trod enc P w 0 sp held g t cs=some x):
  ∃(a:List (DataW H×List MemPlace)) (n:Nat),g=n+1∧cs.length=P.cellsOf t∧x.1= .agg (a.map (·.1))∧a.length=d.length∧ ∀(i:Nat) c off,d[i]?=some (c,off)→DataW.trod enc P w 0 sp held n c ((cs.drop off).take (P.cellsOf c))=a[i]?:=by
 unfold nZ at b;split at b
 ·rename_i A z
  cases b;obtain⟨a,n,l,o,p,u,v⟩:=DataW.trod_struct z h;refine⟨a,n,l,p,by rw[o],by rw[u];simp,fun i c off k=>?_⟩;rw[cT,bG]at k;obtain⟨f,y,e⟩:=k;simp only[Prod.mk.injEq]at e;have j:=v i f (by simpa using y);rw[e.1,e.2]at j;exact j
 cases b
theorem KN {a b c d e:DataW H×List MemPlace}:Rows.uptoBulk (.agg ([a,b,c,d,e].map (·.1)))=Rows.uptoBulk a.1+(Rows.uptoBulk b.1+(Rows.uptoBulk c.1+(Rows.uptoBulk d.1+Rows.uptoBulk e.1)))+1:=by
 simp [Rows.uptoBulk,Rows.uptoBulkAll]
theorem IR {f:Type} {xs:List f} (h:xs.length=5): ∃a b c d e,xs=[a,b,c,d,e]:=by
 match xs,h with
 |[a,b,c,d,e],_=>exact⟨a,b,c,d,e,rfl⟩
theorem WL {d:Type} {xs:List d} (h:xs.length=3): ∃a b c,xs=[a,b,c]:=by
 match xs,h with
 |[a,b,c],_=>exact⟨a,b,c,rfl⟩
end
theorem IK: ∀l:List Ex,Ag (fun e=>2 *e.sz) l=2 *pB l
 |[]=>rfl
 |e::l=>by simp only[Ag,pB,IK l];omega
theorem IJ: ∀l:List Sm,Ag (fun e=>2 *e.sz) l=2 *lQ l
 |[]=>rfl
 |e::l=>by simp only[Ag,lQ,IJ l];omega
def mF (f:Fu):Nat:=f.params.length+f.locs.length+2 *lQ f.body
theorem QU {f:Fu}: ∀{l:List Fu},f∈l→mF f≤Ag mF l
 |x::l,h=>by
  rcases bJ.1 h with rfl|h
  ·simp only[Ag];omega
  have:=QU h;simp only[Ag];omega
section
variable {H : Type} {enc : TypeId × Value → H} {P : Program} {w : World} {sp : Nat → Bool} {held : Bool} (T : XR P)
theorem Hn {a:Nat} {cs:List Value} {x:DataW H×List MemPlace} (h:DataW.trod enc P w 0 sp held a T.strs cs=some x): ∃l:List dE,SV l∧l.length+1≤Rows.uptoBulk x.1∧ ∃v,cs=[v]∧cB (uF w) w (strs l) v:=by
 obtain⟨l,b,c,⟨_,e⟩,d⟩:=nI (fun _=>0) (row:=bT) (ok:=eY) T.uStrs (T.one1 (by simp)) (by decide) (fun _=>rfl) h fun n cs y _ g=>by
  obtain⟨s,rfl,f⟩:=tD T.uStr g;exact⟨s,f,O0 s,cN _⟩
 exact⟨l,⟨b,c⟩,e,d⟩
theorem JZ: ∀(g:Nat) (i:List Value) (x:DataW H×List MemPlace),DataW.trod enc P w 0 sp held g T.ex i=some x→ ∃e:Ex,e.ok∧cY (uF w) w e.row i∧2 *e.sz≤Rows.uptoBulk x.1:=by
 intro g
 induction g using Nat.strongRecOn with
 |_ g ih=>
  intro i x h;obtain⟨Y,n,rfl,E,J,K,f⟩:=sL T.uEx h;rw[T.cEx]at E;obtain⟨a,b,c,d,e,rfl⟩:=TR E;obtain⟨W,Z,y2,y3,y4,rfl⟩:=IR K;rw[J,KN];have j:=f 0 _ _ rfl;have p:=f 1 _ _ rfl;have t:=f 2 _ _ rfl;have u:=f 3 _ _ rfl;have y:=f 4 _ _ rfl;simp only[dJ,fB]at j p t u y;rw[T.one1 (by simp)]at j p t u y;obtain⟨k,z,N⟩:=wK T.uInt j;obtain⟨o,A,O⟩:=wK T.uInt p;obtain⟨m,B,Q⟩:=wK T.uU32 t;obtain⟨s,C,R⟩:=tD T.uStr u;obtain⟨l,S,U,⟨G,_⟩,v,D,I⟩:=nI (fun e=>2 *e.sz) (row:=Ex.row) (ok:=Ex.ok) T.uExs T.cEx (by decide) Ex.row_len y fun M F V X L=>ih M (by omega) F V L;rw[IK]at G;simp at z A B C D;subst z;subst A;subst B;subst C;subst D;refine⟨.mk k o m s l, .mk k o m s l (Rr N) (Rr O) (RP Q) R S U, ?_, ?_⟩
  ·rw[Ex.row_eq]
   simp only[cY,cB,Ex.kind,Ex.op,Ex.num,Ex.name,Ex.kids];exact⟨_,_,rfl,rfl,_,_,rfl,rfl,_,_,rfl,rfl,_,_,rfl,rfl,_,_,rfl,I,rfl⟩
  have:=Js W.1;simp only[Ex.sz];omega
theorem AN {b:Nat} {cs:List Value} {x:DataW H×List MemPlace} (h:DataW.trod enc P w 0 sp held b T.exs cs=some x): ∃l:List Ex,By l∧2 *pB l+1≤Rows.uptoBulk x.1∧ ∃v,cs=[v]∧cB (uF w) w (exs l) v:=by
 obtain⟨l,c,d,⟨a,_⟩,f⟩:=nI (fun e=>2 *e.sz) (row:=Ex.row) (ok:=Ex.ok) T.uExs T.cEx (by decide) Ex.row_len h fun n cs y _ g=>JZ T n cs y g;rw[IK]at a;exact⟨l,⟨c,d⟩,a,f⟩
theorem GY: ∀(g:Nat) (i:List Value) (x:DataW H×List MemPlace),DataW.trod enc P w 0 sp held g T.sm i=some x→ ∃e:Sm,e.ok∧cY (uF w) w e.row i∧2 *e.sz≤Rows.uptoBulk x.1:=by
 intro g
 induction g using Nat.strongRecOn with
 |_ g ih=>
  intro i x h;obtain⟨xs,n,rfl,J,O,Q,f⟩:=sL T.uSm h;rw[T.cSm]at J;obtain⟨a,b,c,d,e,rfl⟩:=TR J;obtain⟨y0,y1,y2,y3,y4,rfl⟩:=IR Q;rw[O,KN];have o:=f 0 _ _ rfl;have p:=f 1 _ _ rfl;have v:=f 2 _ _ rfl;have y:=f 3 _ _ rfl;have z:=f 4 _ _ rfl;simp only[dJ,fB]at o p v y z;rw[T.one1 (by simp)]at o p v y z;obtain⟨k,D,U⟩:=wK T.uInt o;obtain⟨s,E,V⟩:=tD T.uStr p;obtain⟨l,W,m2,v2,F,L⟩:=AN T v;obtain⟨t,X,Y,⟨R,_⟩,v3,G,M⟩:=nI (fun e=>2 *e.sz) (row:=Sm.row) (ok:=Sm.ok) T.uSms T.cSm (by decide) Sm.row_len y fun B j C K A=>ih B (by omega) j C A;obtain⟨u,Z,a0,⟨S,_⟩,v4,I,N⟩:=nI (fun e=>2 *e.sz) (row:=Sm.row) (ok:=Sm.ok) T.uSms T.cSm (by decide) Sm.row_len z fun B j C K A=>ih B (by omega) j C A;rw[IJ]at R S;simp at D E F G I;subst D;subst E;subst F;subst G;subst I;refine⟨.mk k s l t u, .mk k s l t u (Rr U) V W X Y Z a0, ?_, ?_⟩
  ·rw[Sm.row_eq]
   simp only[cY,cB,Sm.kind,Sm.name,Sm.es,Sm.thn,Sm.els];exact⟨_,_,rfl,rfl,_,_,rfl,rfl,_,_,rfl,L,_,_,rfl,M,_,_,rfl,N,rfl⟩
  have:=Js y0.1;simp only[Sm.sz];omega
theorem W4 {b:Nat} {cs:List Value} {x:DataW H×List MemPlace} (h:DataW.trod enc P w 0 sp held b T.sms cs=some x): ∃l:List Sm,zG l∧2 *lQ l+1≤Rows.uptoBulk x.1∧ ∃v,cs=[v]∧cB (uF w) w (sms l) v:=by
 obtain⟨l,c,d,⟨a,_⟩,f⟩:=nI (fun e=>2 *e.sz) (row:=Sm.row) (ok:=Sm.ok) T.uSms T.cSm (by decide) Sm.row_len h fun n cs y _ g=>GY T n cs y g;rw[IJ]at a;exact⟨l,⟨c,d⟩,a,f⟩
theorem JP (C:Nat) (cs:List Value) (x:DataW H×List MemPlace) (h:DataW.trod enc P w 0 sp held C T.fu cs=some x): ∃f:Fu,f.ok∧cY (uF w) w f.row cs∧mF f≤Rows.uptoBulk x.1:=by
 obtain⟨X,n,rfl,A,G,I,g⟩:=sL T.uFu h;rw[T.cFu]at A;obtain⟨a,b,c,d,e,rfl⟩:=TR A;obtain⟨Y,Z,y2,y3,y4,rfl⟩:=IR I;rw[G,KN];have i:=g 0 _ _ rfl;have j:=g 1 _ _ rfl;have k:=g 2 _ _ rfl;have o:=g 3 _ _ rfl;have p:=g 4 _ _ rfl;simp only[dJ,fB]at i j k o p;rw[T.one1 (by simp)]at i j k o p;obtain⟨s,t,L⟩:=tD T.uStr i;obtain⟨K,M,Q,U,u,D⟩:=Hn T j;obtain⟨J,N,R,V,v,E⟩:=Hn T k;obtain⟨B,y,_⟩:=DataW.trod_bool T.uBool o;obtain⟨l,O,S,W,z,F⟩:=W4 T p;simp at t u v y z;subst t;subst u;subst v;subst y;subst z;refine⟨⟨s,K,J,B,l⟩,⟨L,M,N,O⟩, ?_, ?_⟩
 ·simp only[Fu.row,cY,cB]
  exact⟨_,_,rfl,rfl,_,_,rfl,D,_,_,rfl,E,_,_,rfl,rfl,_,_,rfl,F,rfl⟩
 simp only[mF];omega
theorem HY {z:Nat} {cs:List Value} {x:DataW H×List MemPlace} (h:DataW.trod enc P w 0 sp held z T.pg cs=some x): ∃p:Pg,p.ok∧cY (uF w) w p.row cs∧ ∀f∈p.funs,mF f≤Rows.uptoBulk x.1:=by
 obtain⟨R,n,rfl,u,E,F,i⟩:=sL T.uPg h;rw[T.cPg]at u;obtain⟨a,b,c,rfl⟩:=VK u;obtain⟨S,U,V,rfl⟩:=WL F;have d:=i 0 _ _ rfl;have e:=i 1 _ _ rfl;have g:=i 2 _ _ rfl;simp only[dJ,fB]at d e g;rw[T.one1 (by simp)]at d e g;obtain⟨vs,G,N,k,B⟩:=W1 T d;obtain⟨v,I,J,O,l,C⟩:=Hz (row:=Ar.row) (ok:=fun a=>eY a.name∧iU a.size) T.uArs T.cAr (by decide) (fun _=>rfl) e fun n cs y _ j=>OS T n cs y j;obtain⟨t,K,L,⟨M,_⟩,Q,o,D⟩:=nI mF (row:=Fu.row) (ok:=Fu.ok) T.uFus T.cFu (by decide) (fun _=>rfl) g fun n cs y _ j=>JP T n cs y j;simp at k l o;subst k;subst l;subst o;refine⟨⟨vs,v,t⟩,⟨G,I,J,K,L⟩, ?_,fun f A=>?_⟩
 ·simp only[Pg.row,cY]
  exact⟨_,_,rfl,B,_,_,rfl,C,_,_,rfl,D,rfl⟩
 have :mF f≤Ag mF t:=QU A;rw[E];simp only[cX,dH,Rows.uptoBulk,Rows.uptoBulkAll];omega
theorem MP {r:Reach} {c:Nat} {v:Value} {d:DataW H} {o:List MemPlace} (a: ∃b,P.underlying T.pg=some (.struct b)) (n:Value.okWide P w r c T.pg v) (hd:DataW.Trod enc P w 0 sp held T.pg v d o) (u:Rows.uptoBulk d≤1048576): ∃p:Pg,Zz p∧cB (uF w) w p.av v:=by
 obtain⟨b,a⟩:=a;obtain⟨e,rfl,_⟩:=okWide_struct a n;obtain⟨t,k⟩:=hd;obtain⟨p,g,i,j⟩:=HY T k;refine⟨p,⟨g,fun f l=>?_⟩, ?_⟩
 ·have:=j f l
  simp only[mF]at this;omega
 simp only[Pg.av,cB];exact⟨e.toList,by simp,i⟩
end
end
theorem xF {V:UInt8→Prop} {A:Prop} {d:Int} {e:Ex} (h:SX V A d e):(fL e).length≤12 *e.sz:=by
 induction h with
 |num d n hl h=>have:=AS h;simp [fL,iI,hY,Ex.sz,pB];omega
 |var d c hl h hV=>simp [fL,iI,hY,Ex.sz,pB]
 |idx d a hl hA ha ih=>rw[fL,sC];simp [hY,Ex.sz,pB];omega
 |get d hl=>simp [fL,iI,hY,Ex.sz,pB]
 |neg d a hl ha ih=>rw[fL,sC];simp [hY,Ex.sz,pB];omega
 |op d o a b hl h ha hb iha ihb=>
  rw[fL,Vx]
  have :(hY 6 o 0 []).length≤1:=by
   simp only[hY,Int.reduceEq,cQ,dT];cases opS[(o- 4).toNat]?<;>simp
  simp [Ex.sz,pB];omega
theorem Gq {l:List Sm} (h: ∀s∈l,(nY s).length≤12 *s.sz):(iL l).length≤12 *lQ l:=by
 induction l with
 |nil=>simp [iL]
 |cons s l ih=>
  have b:=h s (dN);have c:=ih fun x a=>h x (eR _ a);rw[iL,lQ,aB];omega
theorem N4 {V:UInt8→Prop} {A:Prop} {b:Int} {s:Sm} (h:SS V A b s):(nY s).length≤12 *s.sz:=by
 induction h with
 |set b c e hl hc hV he=>have:=xF he;simp [nY,sC,Sm.sz,pB,lQ];omega
 |store b a e hl hA ha he=>have:=xF ha;have:=xF he;simp [nY,Vx,Sm.sz,pB,lQ];omega
 |put b e hl he=>have:=xF he;simp [nY,sC,Sm.sz,pB,lQ];omega
 |cond b e t hl he ht ih=>have:=xF he;have:=Gq ih;simp [nY,sC,Sm.sz,pB,lQ];omega
 |loop b e t hl he ht ih=>have:=xF he;have:=Gq ih;simp [nY,sC,Sm.sz,pB,lQ];omega
theorem SA {p:Pg} (c:Zz p): ∀f∈p.funs,iF (fun l=>l.all zC) p=true→(iL f.body).length≤1000000000000:=fun f a h=>by
 obtain⟨g,b,d⟩:=Xb c.ok h;rw[b,bE]at a;subst a;have i:=Gq fun s e=>N4 (d s e);have j:=(c.fs f (by rw[b];exact bE.2 rfl)).2.2;omega
def H7 (p:Pg):Bool:=decide (p.funs.length≤4)&&decide (p.vars.length≤40)&&decide (p.arrs.length≤4)&&(!fZ p||decide (Ia p≤200))
theorem Jk {p:Pg} (a:Zz p) (h:H7 p=true):fZ p=true→p.few:=fun b=>by
 simp only[H7,aV,bH]at h;exact a.few h.1.1.2 h.1.2 b
theorem AK (p:Pg) (y:Zz p):eG dR 10 [p.av] (.bool (H7 p)):=by
 have k:=zR p y.ok;have n:=fun C D E=>LK p C D E (fun f F=>by have:=y.fs f F;simp only[I4];omega);have v:H7 p=(decide (p.funs.length≤4)&&decide (p.vars.length≤40)&&decide (p.arrs.length≤4)&&(!fZ p||decide (Ia p≤200))):=rfl;rw[v];have b:decide ((p.funs.length:Int)≤4)=decide (p.funs.length≤4):=decide_eq_decide.2 (by omega);have c:decide ((p.vars.length:Int)≤40)=decide (p.vars.length≤40):=decide_eq_decide.2 (by omega);have d:decide ((p.arrs.length:Int)≤4)=decide (p.arrs.length≤4):=decide_eq_decide.2 (by omega);have B:decide ((Ia p:Int)≤200)=decide (Ia p≤200):=decide_eq_decide.2 (by omega);have x:p.av= .agg p.row:=rfl;have A:p.row=[.isl 1 (p.vars.map bT), .isl 2 (p.arrs.map Ar.row), .isl 5 (p.funs.map Fu.row)]:=rfl;rw[x,A]at *;clear v x A;generalize Ia p=z at *;by_cases o:p.funs.length≤4
 rotate_left
 ·have e:=bI o
  rw[e]at b;rw[e];refine bU 29 [.tmp 2] func10 ?_;refine aA fun K a=>?_;simp only[RR,seval];refine aN fun j l=>?_;simp only[RR,seval];refine a _ _ (aA fun K a=>?_);simp only[aF,b,RR,seval]
  all_goals
   apply a;refine aP ?_;simp only[aY,aK,bP,RR,seval];refine bB.pure ?_;rfl
 have e:=cV o;rw[e]at b;rw[e];by_cases t:p.vars.length≤40
 rotate_left
 ·have g:=bI t
  rw[g]at c;rw[g];refine bU 29 [.tmp 2] func10 ?_;refine aA fun K a=>?_;simp only[RR,seval];refine aN fun j l=>?_;simp only[RR,seval];refine a _ _ (aA fun K a=>?_);simp only[aF,b,c,RR,seval]
  all_goals
   apply a;refine aP ?_;simp only[aY,aK,bP,RR,seval];refine bB.pure ?_;rfl
 have g:=cV t;rw[g]at c;rw[g];by_cases u:p.arrs.length≤4
 rotate_left
 ·have i:=bI u
  rw[i]at d;rw[i];refine bU 29 [.tmp 2] func10 ?_;refine aA fun K a=>?_;simp only[RR,seval];refine aN fun j l=>?_;simp only[RR,seval];refine a _ _ (aA fun K a=>?_);simp only[aF,b,c,d,RR,seval]
  all_goals
   apply a;refine aP ?_;simp only[aY,aK,bP,RR,seval];refine bB.pure ?_;rfl
 have i:=cV u;rw[i]at d;rw[i];have n:=n (by omega) (by omega) (by omega)
 cases hr:fZ p with
 |false=>
  rw[hr]at k;refine bU 29 [.tmp 2] func10 ?_;refine aA fun K a=>?_;simp only[RR,seval];refine aN fun j l=>?_;simp only[RR,seval];refine a _ _ (aA fun K a=>?_);simp only[aF,b,c,d,RR,seval]
  all_goals (refine aI (k) ?_;simp only[RR,seval])
  all_goals
   apply a;refine aP ?_;simp only[aY,aK,bP,RR,seval];refine bB.pure ?_;rfl
 |true=>
  rw[hr]at k;refine bU 29 [.tmp 2] func10 ?_;refine aA fun K a=>?_;simp only[RR,seval];refine aN fun j l=>?_;simp only[RR,seval];refine a _ _ (aA fun K a=>?_);simp only[aF,b,c,d,RR,seval]
  all_goals (refine aI (k) ?_;simp only[RR,seval])
  all_goals (refine aI (n) ?_;simp only[B,RR,seval])
  all_goals
   apply a;refine aP ?_;simp only[aY,aK,bP,RR,seval];refine bB.pure ?_;rfl
end Go.Proofs.YtaecpjgmcffliaaGreatDoor
