/- Xd -/
import Derived.Test.YtaecpjgmcffliaaGreatDoorQk
import Derived.Test.YtaecpjgmcffliaaGreatDoorSy3
import Derived.Test.YtaecpjgmcffliaaGreatDoorAl3
import Derived.Test.YtaecpjgmcffliaaGreatDoorSc1
import Derived.Test.YtaecpjgmcffliaaGreatDoorRows
import Derived.Test.YtaecpjgmcffliaaGreatDoorJc
set_option linter.unusedSimpArgs false
set_option linter.unusedVariables false
set_option maxRecDepth 10000
set_option maxHeartbeats 16000000
namespace Go.Al
theorem H5 (f:AV) (d:List AV) (b c:Int) (a:Int) (h:0≤a∧a≤15):(f:: .int .u32 0:: .int .u32 b:: .int .u32 c:: .int .u32 0:: .int .u32 0:: .int .u32 0:: .int .u32 0:: .int .u32 0:: .int .u32 0:: .int .u32 0:: .int .u32 0:: .int .u32 0:: .int .u32 0:: .int .u32 0:: .int .u32 0:: .int .u32 0::d)[1+a.toNat]?=some (.int .u32 (if a=1 then b else if a=2 then c else 0)):=by
 have :a=0∨a=1∨a=2∨a=3∨a=4∨a=5∨a=6∨a=7∨a=8∨a=9∨a=10∨a=11∨a=12∨a=13∨a=14∨a=15:=by omega
 rcases this with rfl|rfl|rfl|rfl|rfl|rfl|rfl|rfl|rfl|rfl|rfl|rfl|rfl|rfl|rfl|rfl<;>rfl
section
variable {W : List Int} {inp : dC} {r bm bc : Nat} {vo vo' : AV} {s s' : Mc} {en en' : Int} {H H' : Hp}
theorem Mc.r_u (h:jU W inp r bm bc vo s en H) (a:Int):dX (s.r a):=by
 unfold Mc.r;split
 ·exact h.u1
 split
 ·exact h.u2
 simp [dX]
theorem jU.store (h:jU W inp r bm bc vo s en H) (j:Nat) (v:Int) (p:dX v) (n:H' bm=some (.rows 1 ((s.mem.map gL).set j [.int .u32 v]))) (f: ∀b,b≠bm→H' b=H b):jU W inp r bm bc vo {s with mem:=s.mem.set j v} en H':=by
 obtain⟨l,i,k⟩:=h.c;refine⟨by rw[f _ (Ne.symm h.nmr)];exact h.r,by rw[n,qY],by rw[dP];exact h.ml,⟨l,i,by rw[f _ (Ne.symm h.mc)];exact k⟩, ?_,h.om,h.oc,h.mc,h.ol,h.u1,h.u2,fun x g=>?_,h.rd⟩
 ·rcases h.o with⟨a,d⟩|⟨b,a,d⟩
  ·exact .inl ⟨a,d⟩
  exact .inr ⟨b,a,by rw[f b (fun e=>h.om _ _ (by rw[a,e]))];exact d⟩
 rcases pG g with g|rfl
 ·exact h.um x g
 exact p
theorem jU.count (h:jU W inp r bm bc vo s en H) {cn:List Int} (f:cn.length=W.length) (g:H' bc=some (.rows 1 (cn.map NI))) (d: ∀b,b≠bc→H' b=H b):jU W inp r bm bc vo s en H':=by
 refine⟨by rw[d _ (Ne.symm h.ncr)];exact h.r,by rw[d _ h.mc];exact h.m,h.ml,⟨cn,f,g⟩, ?_,h.om,h.oc,h.mc,h.ol,h.u1,h.u2,h.um,h.rd⟩;rcases h.o with⟨a,c⟩|⟨b,a,c⟩
 ·exact .inl ⟨a,c⟩
 exact .inr ⟨b,a,by rw[d b (fun e=>h.oc _ _ (by rw[a,e]))];exact c⟩
theorem jU.put {c:UInt8} (h:jU W inp r bm bc vo s en H) (y:s.out.length<65536) (t:eB 1 vo' (s.out.map rE++[rE c]) H') (i: ∀b o,H b=some o→vo≠ .osl 1 b (s.out.map rE).length→H' b=some o) (f: ∀b,off vo b→H b≠none→off vo' b) {H2:Hp}
  (u:H2 r=some (.rows 28 [[.int .i64 s.pc, .int .u32 0, .int .u32 s.r1, .int .u32 s.r2, .int .u32 0, .int .u32 0, .int .u32 0, .int .u32 0, .int .u32 0, .int .u32 0, .int .u32 0, .int .u32 0, .int .u32 0, .int .u32 0, .int .u32 0, .int .u32 0, .int .u32 0, .osl 1 bm 4224, .int .i64 s.rd, .str [], .int .i64 s.st, .int .i64 en,vo', .isl 4 (W.map yF), .isl 1 (W.map fun _=>[.bool true]), .isl 1 (W.map gL), .str inp, .osl 1 bc W.length]])) (d: ∀b,b≠r→H2 b=H' b):
  jU W inp r bm bc vo' {s with out:=s.out++[c]} en H2∧gP r bm bc vo vo' H H2:=by
 obtain⟨p,n,j⟩:=h.c;have x:off vo' r:=f r h.or (by rw[h.r];exact bY _);refine⟨⟨u,by rw[d _ h.nmr];exact i _ _ h.m (h.om _ _),h.ml,⟨p,n,by rw[d _ h.ncr];exact i _ _ j (h.oc _ _)⟩, ?_,f _ h.om (by rw[h.m];exact bY _),f _ h.oc (by rw[j];exact bY _),h.mc, ?_,h.u1,h.u2,h.um,h.rd⟩,fun b o k v z A l=>⟨by rw[d _ v];exact i _ _ k (l _ _),f b l (by rw[k];exact bY _)⟩⟩
 ·rw[cO]
  rcases t with⟨a,g⟩|⟨b,a,g⟩
  ·exact .inl ⟨a,g⟩
  exact .inr ⟨b,a,by rw[d b (fun e=>x _ _ (by rw[a,e]))];exact g⟩
 simp only[aH,bV];omega
end
theorem Ql {a b:Type} (W:List a) (f:a→b) (z:b) {k:Nat} {x:a} (h:W[k]?=some x):((W.take k).map f++List.replicate (W.length-k) z)[k]?=some z:=by
 have d:=(bF.1 h).1;have c:((W.take k).map f).length=k:=by simp;omega
 rw[jA (by omega),c,Gq,qW,bH (by omega)]
theorem Qj {a b:Type} (W:List a) (f:a→b) (z:b) {k:Nat} {x:a} {y:b} (h:W[k]?=some x) (e:f x=y):((W.take k).map f++List.replicate (W.length-k) z).set k y=(W.take (k+1)).map f++List.replicate (W.length-(k+1)) z:=by
 have g:=(bF.1 h).1;have c:((W.take k).map f).length=k:=by simp;omega
 have d:W.length-k=(W.length-(k+1))+1:=by omega
 rw[d,List.replicate_succ,List.set_append_right _ _ (by omega),c,Gq,CY,List.take_add_one,h,cO];simp [e]
theorem O4 {a:Type} (W:List a) (b sz:Nat) (l:List (List AV)):(W.map fun _=>[AV.bool true]).map (fun x=>x.map (frz b sz l))=W.map fun _=>[AV.bool true]:=by
 rw[List.map_map];rfl
def R2 (s:Mc) (vm:AV) (e:Int):List AV:=[.int .i64 s.pc, .int .u32 0, .int .u32 s.r1, .int .u32 s.r2, .int .u32 0, .int .u32 0, .int .u32 0, .int .u32 0, .int .u32 0, .int .u32 0, .int .u32 0, .int .u32 0, .int .u32 0, .int .u32 0, .int .u32 0, .int .u32 0, .int .u32 0,vm, .int .i64 s.rd, .str s.out, .int .i64 s.st, .int .i64 e]
theorem NX:D2.mem.map gL=List.replicate 4224 [AV.int .u32 0]:=List.map_replicate
theorem NY:D2.mem.length=4224:=fJ
theorem WR: ∀x∈D2.mem,dX x:=fun x a=>by
 rw[QA a];exact⟨by decide,by decide⟩
theorem LO {E:kC} {F:Nat→Prop} {j:List (Option Nat)} {Q:fN} {d:Option Nat} {n:List Oper} {fr:Fr} {H:Hp} {g:FuncId} {i:List AV} {R:xE→Prop} (p:oN E g i qZ (fun c _=>R c)) (u: ∀v, ¬R (.pan v))
  (h: ∀v a,R (.ret v)→(∀b o,H b=some o→a b=some o)→eI E F j Q n (eW fr d v) a):qU E F j Q d n fr H g i:=by
 refine nG p (fF.refl _) (fun b o h=>by cases h) (fun b f=>absurd rfl f) fun c a k f=>?_
 cases c with
 |pan v=>exact absurd k (u v)
 |ret v=>
  refine h v _ k fun b o l=>?_
  have t:a b=none:=by
   cases e:a b with
   |none=>rfl
   |some o'=>
    rcases f b (by rw[e];exact bY _)with h|h
    ·exact absurd rfl h
    rw[l]at h;cases h
  unfold lJ;rw[t];simp [qZ,l]
theorem jU.seal {W:List Int} {inp:dC} {r g u:Nat} {vo:AV} {s:Mc} {v:Int} {H:Hp} {E:kC} {N:Nat} {Q:fN} {c:Code} {fr:Fr} (f:jU W inp r g u vo s v H)
  (h: ∀D A,(∀j,tK (fr j)=true→D j=fr j)→A r=some (.rows 28 [[.int .i64 s.pc, .int .u32 0, .int .u32 s.r1, .int .u32 s.r2, .int .u32 0, .int .u32 0, .int .u32 0, .int .u32 0, .int .u32 0, .int .u32 0, .int .u32 0, .int .u32 0, .int .u32 0, .int .u32 0, .int .u32 0, .int .u32 0, .int .u32 0, .isl 1 (s.mem.map gL), .int .i64 s.rd, .str [], .int .i64 s.st, .int .i64 v, .isl 1 (s.out.map rE), .isl 4 (W.map yF), .isl 1 (W.map fun _=>[.bool true]), .isl 1 (W.map gL), .str inp, .osl 1 u W.length]])→
   (∀b d l,b≠r→b≠g→off vo b→(∀r∈l, ∀x∈r,tK x=true)→H b=some (.rows d l)→A b=some (.rows d l))→mD E N c Q D A):mD E N c Q fr H:=by
 have L:H r=some (.rows 28 [[AV.int .i64 s.pc, .int .u32 0, .int .u32 s.r1, .int .u32 s.r2, .int .u32 0, .int .u32 0, .int .u32 0, .int .u32 0, .int .u32 0, .int .u32 0, .int .u32 0, .int .u32 0, .int .u32 0, .int .u32 0, .int .u32 0, .int .u32 0, .int .u32 0]++AV.osl 1 g 4224::[.int .i64 s.rd, .str [], .int .i64 s.st, .int .i64 v,vo, .isl 4 (W.map yF), .isl 1 (W.map fun _=>[.bool true]), .isl 1 (W.map gL), .str inp, .osl 1 u W.length]]):=f.r;have S:(s.mem.map gL).length=4224:=by rw[aE];exact f.ml
 have V:eB 1 (.osl 1 g 4224) (s.mem.map gL) H:= .inr ⟨g,by rw[S],f.m⟩;have T:=f.nmr;have k: ∀b,b≠g→off (.osl 1 g 4224) b:=fun b k sz n e=>by cases e;exact k rfl
 refine iF V L (fun x a=>?_) (fun x a=>?_) (k r (Ne.symm T)) fun Y H1 O P R=>?_
 ·simp only[bP,bO,dF]at a
  rcases a with rfl|rfl|rfl|rfl|rfl|rfl|rfl|rfl|rfl|rfl|rfl|rfl|rfl|rfl|rfl|rfl|rfl<;>exact bS rfl
 ·simp only[bP,bO,dF]at a
  rcases a with rfl|rfl|rfl|rfl|rfl|rfl|rfl|rfl|rfl|rfl
  ·exact bS rfl
  ·exact bS rfl
  ·exact bS rfl
  ·exact bS rfl
  ·exact fun d b n e=>k b fun p=>f.om d n (by rw[e,p])
  ·exact bS rfl
  ·exact bS rfl
  ·exact bS rfl
  ·exact bS rfl
  exact fun d b n e=>by cases e;exact k _ (Ne.symm f.mc)
 have G: ∀b d l,b≠r→b≠g→(∀r∈l, ∀x∈r,tK x=true)→H b=some (.rows d l)→H1 b=some (.rows d l):=fun b d l y B C z=>R b d l y (k b B) (fun r t x a=>bS (C r t x a)) z
 have U:eB 1 vo (s.out.map rE) H1:=by
  rcases f.o with⟨i,p⟩|⟨b,i,p⟩
  ·exact .inl ⟨i,p⟩
  refine .inr ⟨b,i,G b _ _ (fun e=>f.or _ _ (by rw[i,e])) (fun e=>f.om _ _ (by rw[i,e])) (fun r t x a=>?_) p⟩;obtain⟨c,_,rfl⟩:=jL.1 t;simp only[rE,bD]at a;subst a;rfl
 have M:H1 r=some (.rows 28 [[AV.int .i64 s.pc, .int .u32 0, .int .u32 s.r1, .int .u32 s.r2, .int .u32 0, .int .u32 0, .int .u32 0, .int .u32 0, .int .u32 0, .int .u32 0, .int .u32 0, .int .u32 0, .int .u32 0, .int .u32 0, .int .u32 0, .int .u32 0, .int .u32 0, .isl 1 (s.mem.map gL), .int .i64 s.rd, .str [], .int .i64 s.st, .int .i64 v]++vo::[.isl 4 (W.map yF), .isl 1 (W.map fun _=>[.bool true]), .isl 1 (W.map gL), .str inp, .osl 1 u W.length]]):=P;refine iF U M (fun x a=>?_) (fun x a=>?_) f.or fun J I k1 X k3=>?_
 ·simp only[bP,bO,dF]at a
  rcases a with rfl|rfl|rfl|rfl|rfl|rfl|rfl|rfl|rfl|rfl|rfl|rfl|rfl|rfl|rfl|rfl|rfl|rfl|rfl|rfl|rfl|rfl<;>exact bS rfl
 ·simp only[bP,bO,dF]at a
  rcases a with rfl|rfl|rfl|rfl|rfl
  ·exact bS rfl
  ·exact bS rfl
  ·exact bS rfl
  ·exact bS rfl
  exact fun d b n e=>by cases e;exact f.oc
 refine h J I (fun j F=>?_) X fun b d l y B C z K=>k3 b d l y C (fun r t x a=>bS (z r t x a)) (G b d l y B z K);have i:=O j (bS F);rw[k1 j (by rw[i];exact bS F),i]
theorem qT: ∀{L:List Int} {i:Nat} {x:Int},L[i]?=some x→ ∀j,j<4→(vI L)[4 *i+j]?=(UL x)[j]?
 |[],i,x,h,_,_=>by simp at h
 |y::L,0,x,h,j,hj=>by
  simp only[fA,Option.some.injEq]at h;subst h;rw[Nat.mul_zero,bT];show(UL y++vI L)[j]?=_;rw[iE (by show j<4;exact hj)]
 |y::L,i+1,x,h,j,hj=>by
  rw[kV]at h;show(UL y++vI L)[4 *(i+1)+j]?=_;have a:(UL y).length=4:=rfl;rw[jA (by rw[a];omega),a,show 4 *(i+1)+j- 4=4 *i+j by omega];exact qT h j hj
theorem Rk (x:Int):(((UInt8.ofNat (x % 256).toNat).toNat:Nat):Int)=x % 256:=by
 rw[UInt8.toNat_ofNat'];omega
instance opK_dec (o:Int):Decidable (RO o):=by unfold RO;infer_instance
def RQ (w:Int):Prop:=dX w∧sM w
theorem pC {o a b c:Int} (j:(0≤o∧o≤200)∧(0≤a∧a≤15)∧(0≤b∧b≤15)∧(0≤c∧c≤65535)) (i:RO o) (h:BE o a b c=true):RQ (gF o a b c):=by
 have d:gF o a b c/16777216=o:=by simp only[gF];omega
 have e:gF o a b c/1048576 % 16=a:=by simp only[gF];omega
 have f:gF o a b c/65536 % 16=b:=by simp only[gF];omega
 have g:gF o a b c % 65536=c:=by simp only[gF];omega
 unfold RQ sM;rw[d,e,f,g];exact⟨⟨by simp only[gF];omega,by simp only[gF];omega⟩,i,h⟩
theorem wB {o a b c:Int} (d:(0≤o∧o≤200)∧(0≤a∧a≤15)∧(0≤b∧b≤15)) (k:RO o) (h:(vW (vR (rF o) 97) a 15&&vW (vR (rF o) 98) b 15&&vR (rF o) 99&& !vR (rF o) 114)=true) (e:0≤c∧c≤65535):RQ (gF o a b c):=by
 refine pC ⟨d.1,d.2.1,d.2.2,e⟩ k ?_;simp only[bC,dE]at h;obtain⟨⟨⟨f,g⟩,i⟩,j⟩:=h;unfold BE;rw[f,g,i,j];simp [vW,e]
theorem lX {d X e:Int} (hd:0≤d∧d≤200) (c: -1≤e∧e≤200) (b:RQ X): ∀w∈zH d X e,RQ w:=fun w a=>by
 simp only[zH,bP,bO,dF]at a;rcases a with rfl|rfl|rfl|rfl
 ·exact wB (by decide) (by decide) (by decide) (by omega)
 ·exact wB (by decide) (by decide) (by decide) (by omega)
 ·exact b
 exact wB (by decide) (by decide) (by decide) (by omega)
theorem TO {o:Int} (h:4≤o∧o≤15):RQ (gF o 1 1 2):=by
 have :o=4∨o=5∨o=6∨o=7∨o=8∨o=9∨o=10∨o=11∨o=12∨o=13∨o=14∨o=15:=by omega
 rcases this with rfl|rfl|rfl|rfl|rfl|rfl|rfl|rfl|rfl|rfl|rfl|rfl<;>exact pC (by decide) (by decide) (by decide)
def Kw (q:Nat) (z:Zs) (A:List Int):Prop:= ∀w∈(iK A q z).2,RQ w
theorem Kw.app {q:Nat} {z:Zs} {A B:List Int} (b:Kw q z A) (c:Kw (q+A.length) (iK A q z).1 B):Kw q z (A++B):=fun w a=>by
 rw[zQ]at a;rcases eV.1 a with h|h
 ·exact b w h
 exact c w h
def kE:List Ex→Nat
 |[]=>0
 |e::l=>sN e.kids+kE l
def kS:List Sm→Nat
 |[]=>0
 |e::l=>sN e.es+oZ e.thn+oZ e.els+kS l
theorem BS {n:Int} (h:dX n):(Lib.decDigits n.toNat).length≤11:=by
 have b: ∀(k:Nat) (m:Nat),m<10^(k+1)→(Lib.decDigits m).length≤k+1:=by
  intro k
  induction k with
  |zero=>intro m a;rw[Lib.decDigits,dif_pos (by omega)];simp
  |succ k ih=>
   intro m a;rw[Lib.decDigits];split
   ·simp
   have:=ih (m/10) (by rw[mQ]at a;omega);simp only[aH,aQ,aV];omega
 have:=b 9 n.toNat (by have:=h.2;have:=h.1;omega);omega
end Go.Al
namespace Go.Proofs.YtaecpjgmcffliaaGreatDoor
open Go.Al Go.Proofs.Tryz
section
variable {W : List Int} {inp : dC} {r bm bc : Nat} {vo : AV} {s s' : Mc} {e en : Int} {H : Hp}
theorem rH {a x:Int} (j:jU W inp r bm bc vo s.stp en H) (l:dX x) (h:s.set a x=some (e,s')) (k:0≤s.pc∧s.pc≤1000000):oN dV 157 [.ptr 28 r 0 0, .int .i64 a, .int .u32 x] H (fun b H'=>b= .ret (.tup [])∧jU W inp r bm bc vo s' en H'∧gP r bm bc vo vo H H'∧e=0):=by
 unfold Mc.set at h;by_cases g:a=1
 ·subst g
  rw[bH rfl]at h;simp only[Option.some.injEq,Prod.mk.injEq]at h;obtain⟨rfl,rfl⟩:=h;exact oN.mono (AD j x l k) fun b H' ⟨c,d,f⟩=>⟨c,d,f,rfl⟩
 rw[aL g]at h;by_cases i:a=2
 ·subst i
  rw[bH rfl]at h;simp only[Option.some.injEq,Prod.mk.injEq]at h;obtain⟨rfl,rfl⟩:=h;exact oN.mono (AC j x l k) fun b H' ⟨c,d,f⟩=>⟨c,d,f,rfl⟩
 rw[aL i]at h;cases h
theorem TW {W:List Int} {p:Nat} {w:Int} (h:W[p]?=some w):p<W.length:=(bF.1 h).1
theorem AB (hM:jU W inp r bm bc vo s 0 H) (l0:W.length≤20000) (i7: ∀w∈W,dX w∧sM w) (hst:s.st≤1000000000000) (l2:inp.length≤2000000) (f:mX W inp s=some (e,s')):oN dV 106 [.ptr 28 r 0 0] H (fun U H'=>U= .ret (.tup [])∧ ∃vo',jU W inp r bm bc vo' s' e H'∧gP r bm bc vo vo' H H'):=by
 unfold mX at f;by_cases h0:s.pc<0
 ·rw[bH h0]at f;cases f
 rw[aL h0]at f;obtain⟨p,N⟩:=gY (show 0≤s.pc by omega)
 cases hw:W[s.pc.toNat]? with
 |none=>rw[hw]at f;cases f
 |some w=>
 rw[hw]at f;simp only at f;rw[N,cC]at hw;have l4:=TW hw;obtain⟨hu,a9⟩:=i7 w (aZ hw);unfold sM at a9;have c4:(W.map yF)[p]?=some [.int .i64 (w/16777216), .int .i64 (w/1048576 % 16), .int .i64 (w/65536 % 16), .int .i64 (w % 65536)]:=by rw[dT,hw];rfl
 have d7:(W.map fun _=>[AV.bool true])[p]?=some [.bool true]:=by rw[dT,hw];rfl
 obtain⟨o,ho⟩: ∃o,w/16777216=o:=⟨_,rfl⟩;obtain⟨a,ha⟩: ∃a,w/1048576 % 16=a:=⟨_,rfl⟩;obtain⟨b,g⟩: ∃b,w/65536 % 16=b:=⟨_,rfl⟩;obtain⟨c,hc⟩: ∃c,w % 65536=c:=⟨_,rfl⟩;have b6:(0≤a∧a≤15)∧(0≤b∧b≤15)∧(0≤c∧c≤65535):=by have:=hu.1;omega
 rw[ho,ha,g,hc]at f c4 a9;clear ho ha g hc hu i7 hw;obtain⟨b6,g7,d5⟩:=b6
 have j4:4≤o∧o≤15→c≤15:=fun h=>by
  have N:rF o=[97,98,114]:=by
   unfold rF;rw[aL (by omega),aL (by omega),aL (by omega),aL (by omega),aL (by omega)]
  have h2:=a9.2;unfold BE at h2;rw[N]at h2;simp [vR,vW]at h2;omega
 have a0:0≤a:=b6.1;have a1:a<16:=by omega
 have b0:0≤b:=g7.1;have b1:b<16:=by omega
 have c9:=fun x0 b4=>show _=some (AV.int .u32 (s.r a))from H5 x0 b4 s.r1 s.r2 a b6
 have a4:=fun x0 b4=>show _=some (AV.int .u32 (s.r b))from H5 x0 b4 s.r1 s.r2 b g7
 obtain⟨cn,j3,P⟩:=hM.c;obtain⟨v,hv⟩: ∃v,cn[p]?=some v:=⟨_,aF (by omega)⟩;have d6:(cn.map NI)[p]?=some [.int .i64 v]:=by rw[dT,hv];rfl
 have k:=hM.r;rw[N]at k;have b3:=hM.ncr;have nbr:=b3.symm;have d1:decide ((p:Int)<0)=false:=bA (by omega);have d2:decide ((W.length:Int)≤(p:Int))=false:=bA (by omega);have d3:(p:Int)<(W.length:Int):=by omega
 have d4:(0:Int)≤(p:Int):=by omega
 have e1:IntKind.wrap .i64 ((s.st:Int)+1)=((s.st+1:Nat):Int):=by rw[aS _ (by omega)];omega
 have e2:IntKind.wrap .u32 c=c:=eH _ (by omega);have e3:IntKind.wrap .i64 ((p:Int)+1)=((p+1:Nat):Int):=by rw[aS _ (by omega)];omega
 have k5:=a9.1;have d9:(p:Int)+1=((p+1:Nat):Int):=by omega
 unfold RO at k5;have e5: ¬o=18:=by omega
 have e6: ¬o=20:=by omega
 have e7: ¬o=21:=by omega
 have c7: ¬o=27:=by omega
 clear a9;obtain⟨X,hX⟩: ∃X,X=upd (upd H r (some (.rows 28 [JL W inp bm bc vo (p:Int) s.r1 s.r2 s.rd ((s.st+1:Nat):Int) 0]))) bc (some (.rows 1 ((cn.map NI).set p [.int .i64 (IntKind.i64.wrap (v+1))]))):=⟨_,rfl⟩
 have g5:jU W inp r bm bc vo s.stp 0 X:=by
  rw[hX];refine(hM.turn (s':=s.stp) (en':=0) (H':=upd H r (some (.rows 28 [JL W inp bm bc vo (p:Int) s.r1 s.r2 s.rd ((s.st+1:Nat):Int) 0]))) ?_ (fun b g=>cI _ _ g) rfl rfl hM.u1 hM.u2 hM.rd).count (cn:=cn.set p (IntKind.i64.wrap (v+1))) (by rw[dP];exact j3) ?_ (fun b g=>cI _ _ g)
  ·rw[show s.stp.pc=(p:Int)from N];exact bE _ _ _
  rw[bE,List.map_set];rfl
 obtain⟨HO,I⟩: ∃X,X=H:=⟨_,rfl⟩;refine bX 411 [] func106 ?_;refine aI (aC fun K d=>?_);refine bB (fun x=>x≠r∧x≠bc) [(0,3),(1,3),(2,3),(3,3),(4,1),(5,3),(6,3),(7,3),(8,3),(9,3),(10,3),(11,1),(12,3),(13,3),(14,3),(15,1),(16,3),(17,3),(18,3)] [] eF (by kernel_rfl) rfl rfl ?_;simp only[dR,k,aE,d1,d2,RR,seval]
 repeat' ((refine bZ (fun h=>?_) (fun h=>?_))<;>simp only[h,k,P,b3,nbr,aE,c4,d7,d6,d1,d2,d3,d4,e1,e2,e3,a0,a1,b0,b1,c9,a4,e5,e6,e7,c7,cC,RR,seval])
 all_goals
  refine d _ _ (bL ?_);refine aK ?_;simp only[RR];refine aA fun K d=>?_;simp only[k,e1,RR,seval];refine d _ _ (aC fun K d=>?_);refine bB (fun x=>x≠r∧x≠bc) [(0,3),(1,3),(2,3),(3,1),(4,3),(5,3),(6,3),(7,3),(8,1),(9,3),(10,1),(11,3),(12,3)] [(13,1)] eF (by kernel_rfl) rfl rfl ?_;simp only[dR,P,b3,d6,d3,d4,cC,RR,seval];refine d _ _ (aC fun K d=>?_);refine bB (fun x=>x≠r∧x≠bc) [(0,3),(1,3),(2,3),(3,0),(4,3),(5,3),(6,3),(7,3),(8,0),(9,3),(10,0),(11,1)] [(12,1)] eF (by kernel_rfl) rfl rfl ?_;simp only[dR,fX,nbr,c4,d4,cC,RR,seval];refine aM fun E a8=>?_;have e8:E≠r:=fun e=>by rw[e]at a8;simp only[nbr,RR,seval,reduceCtorEq]at a8
  have c8:=e8.symm;have i8:E≠bc:=fun e=>by rw[e]at a8;simp only[RR,seval,reduceCtorEq]at a8
  have i9:=i8.symm;simp only[RR,seval];refine d _ _ (aI (aC fun K d=>?_));refine bB (fun x=>x≠r∧x≠bc∧x≠E) [(0,3),(1,3),(2,3),(3,1),(4,3),(5,3),(6,3),(7,3),(8,1),(9,3),(10,1),(11,3)] [] eF (by kernel_rfl) rfl rfl ?_;simp only[dR,nbr,c8,d7,d4,cC,RR,seval];refine d _ _ (bL ?_);refine aK ?_;simp only[RR];refine aC fun K d=>?_;refine bB (fun x=>x≠r∧x≠bc∧x≠E) [(0,3),(1,3),(2,1),(3,3),(4,3),(5,3),(6,3),(7,1),(8,3)] [] eF (by kernel_rfl) rfl rfl ?_;simp only[dR,nbr,c8,a0,a1,c9,RR,seval];refine d _ _ (bM fun F1 M1 L B=>?_);have j:=L 0;have D:=L 2;have Q:=L 3;have k:=B r;have P:=B bc;have A:=B E;simp only[nbr,c8,i9,RR,seval]at j D Q k P A;have a7:=funext B;have i5:X E=none:=by rw[hX];exact a8
  have b5: ∀b,X b≠none→M1 b=X b:=fun b g=>by
   have n:b≠E:=fun e=>g (by rw[e];exact i5);rw[a7,hX];simp only[cI _ _ n];rfl
  have i:jU W inp r bm bc vo s.stp 0 M1:=g5.far b5
  have C:gP r bm bc vo vo HO M1:=by
   rw[hX,←I]at b5;exact gP.upd2 (.inl rfl) (.inr (.inr rfl)) b5
  clear b5 i5 g5 hX a7;refine aA fun K d=>?_;simp only[D,A,RR,seval];refine d _ _ (aP (aA fun K d=>?_));simp only[RR,seval];refine d _ _ (aU ?_ ?_)<;>intro b8
  ·try (cases b8;done)
   all_goals
    obtain rfl:=aB b8;have f:s.set a c=some (e,s'):=by simpa [tX]using f
    refine aG ?_;simp only[j,D,A,e2,RR,seval];refine jT (rH i ⟨d5.1,by omega⟩ f (by omega)) (fun _=>trivial) fun U H2 ⟨G,l,F,O⟩=>?_;subst G;subst O;simp only[RR,seval];simp only[aW,aJ,bN,seval];exact aY.run ⟨rfl,_,l,I▸C.trans F⟩
  try (cases b8;done)
  all_goals
   refine aA fun K d=>?_;simp only[RR,seval];refine d _ _ (aU ?_ ?_)<;>intro g9
   ·obtain rfl:=aB g9
    have f:s.set a (s.r a % 65536+c *65536)=some (e,s'):=by simpa [tX]using f
    have a3:dX (s.r a):=Mc.r_u i a;have q1:(s.r a).tmod 65536=s.r a % 65536:=vS a3.1;have q2:IntKind.wrap .u32 (c *65536)=c *65536:=eH _ (by omega);have q3:IntKind.wrap .u32 (s.r a % 65536)=s.r a % 65536:=eH _ (by omega);have q4:IntKind.wrap .u32 (s.r a % 65536+c *65536)=s.r a % 65536+c *65536:=eH _ (by omega);refine aG ?_;simp only[j,D,Q,A,e2,q1,q2,q4,RR,seval];refine jT (rH i ⟨by omega,by omega⟩ f (by omega)) (fun _=>trivial) fun U H2 ⟨G,l,F,O⟩=>?_;subst G;subst O;simp only[RR,seval];simp only[aW,aJ,bN,seval];exact aY.run ⟨rfl,_,l,I▸C.trans F⟩
   refine aA fun K d=>?_;simp only[RR,seval];refine d _ _ (aU ?_ ?_)<;>intro h3
   ·obtain rfl:=aB h3
    have f:s.set a (s.r b)=some (e,s'):=by simpa [tX]using f
    refine bB (fun _=>True) [(0,3),(1,3),(2,1),(3,3),(4,3),(5,1),(6,3),(7,3),(8,3),(9,3),(10,1),(11,1)] [] eF (by kernel_rfl) rfl rfl ?_;simp only[dR,j,D,k,A,b0,b1,a4,RR,seval];refine jT (rH i (show dX (s.r b)from Mc.r_u i b) f (by omega)) (fun _=>trivial) fun U H2 ⟨G,l,F,O⟩=>?_;subst G;subst O;simp only[RR,seval];simp only[aW,aJ,bN,seval];exact aY.run ⟨rfl,_,l,I▸C.trans F⟩
   refine aI (bM fun F2 R L B=>?_);have S:=L 0;have l:=L 2;have F:=L 3;have J:=L 92;have gr:=B r;have Y:=B bc;have V:=B E;simp only[j,D,Q,k,P,A,RR,seval]at S l F J gr Y V;have a7:=funext B;have i:jU W inp r bm bc vo s.stp 0 R:=i.same B;have C:gP r bm bc vo vo HO R:=by rw[a7];exact C
   clear a7;have j:=S;have D:=l;have Q:=F;have k:=gr;have P:=Y;have A:=V;refine fQ (fun fr M=>aX [0,2,3,92] F2 fr∧M r=R r∧M bc=R bc∧M E=R E∧fr 162= .bool (decide (o=16))∧jU W inp r bm bc vo s.stp 0 M∧gP r bm bc vo vo HO M) (fun k9 f9=>?_) ?_
   ·have e9:=aX.refl [0,2,3,92] F2
    have f5:R r=R r:=rfl;have f4:R bc=R bc:=rfl;have f1:R E=R E:=rfl;refine aA fun K d=>?_;simp only[J,RR,seval];refine d _ _ (aU ?_ ?_)<;>intro j1
    ·refine aK ?_;try simp only[RR]
     refine f9 _ _ ⟨(by repeat (first|exact e9|refine aX.upd rfl ?_)),f5,f4,f1, ?_,i,C⟩
     (simp only[aT,seval];done)
    refine aG ?_;simp only[J,c7,RR,seval];refine f9 _ _ ⟨(by repeat (first|exact e9|refine aX.upd rfl ?_)),f5,f4,f1, ?_,i,C⟩
    (simp only[aT,seval,j1];done)
   rintro F3 M3 ⟨a6,gr,Y,V,f6,i,C⟩;have j:=(a6 0 rfl).trans j;have D:=(a6 2 rfl).trans D;have Q:=(a6 3 rfl).trans Q;have J:=(a6 92 rfl).trans J;have k:=gr.trans k;have P:=Y.trans P;have A:=V.trans A;clear a6;simp only[RR,seval];refine dN _ f6 (fun d0=>?_) (fun d0=>?_)
   ·obtain rfl:=aB d0
    obtain⟨x,hx,f⟩: ∃x,s.mem[(gS (s.r b+c)).toNat]?=some x∧s.set a x=some (e,s'):=by
     simp [tX]at f
     cases hm:s.mem[(gS (s.r b+c)).toNat]? with
     |none=>rw[hm]at f;cases f
     |some x=>rw[hm]at f;exact⟨x,rfl,f⟩
    refine aA fun K d=>?_;simp only[j,k,RR,seval];refine d _ _ (aI (aA fun K d=>?_));simp only[D,A,c7,RR,seval];refine d _ _ (bL ?_);refine aK ?_;simp only[RR];refine aC fun K d=>?_;refine bB (fun _=>True) [(0,3),(1,3),(2,3),(3,1),(4,3),(5,3),(6,3),(7,3),(8,1),(9,3),(10,1),(11,1),(12,3),(13,3),(14,3),(15,3),(16,3)] [] eF (by kernel_rfl) rfl rfl ?_;simp only[dR,j,D,k,A,b0,b1,a4,RR,seval];refine jT (BN i.m i.ml d5 hx) (fun _=>trivial) fun U H2 ⟨G,l⟩=>?_;subst G;subst l;simp only[RR,seval];refine d _ _ (aI (aA fun K d=>?_));simp only[RR,seval];refine d _ _ (bL ?_);refine aK ?_;simp only[RR];refine aG ?_;simp only[j,D,A,RR,seval];refine jT (rH i (i.um x (aZ hx)) f (by omega)) (fun _=>trivial) fun U H2 ⟨G,l,F,O⟩=>?_;subst G;subst O;simp only[RR,seval];simp only[aW,aJ,bN,seval];exact aY.run ⟨rfl,_,l,I▸C.trans F⟩
   refine aA fun K d=>?_;simp only[J,RR,seval];refine d _ _ (aU ?_ ?_)<;>intro h4
   ·obtain rfl:=aB h4
    obtain⟨a5,f⟩:(gS (s.r b+c)).toNat<4224∧(0,{s.nx with mem:=s.mem.set (gS (s.r b+c)).toNat (s.r a)})=(e,s'):=by
     have d8:s.mem.length=4224:=i.ml;simp only[tX,d8]at f;by_cases z:(gS (s.r b+c)).toNat<4224
     ·exact⟨z,by simpa [z]using f⟩
     simp [z]at f
    have g6:=Ll (s.r b+c);obtain⟨t,ht⟩: ∃t,gS (s.r b+c)=t:=⟨_,rfl⟩;rw[ht]at a5 f g6;simp only[Prod.mk.injEq]at f;obtain⟨rfl,rfl⟩:=f;have a3:dX (s.r a):=Mc.r_u i a;have b7:=i.m;have j8:=i.nmr;have k0:r≠bm:=fun e=>j8 e.symm;have i4:E≠bm:=fun e=>by rw[e,b7]at A;cases A
    have l3:bm≠E:=fun e=>i4 e.symm;have d8:s.stp.mem.length=4224:=i.ml;have q1:IntKind.wrap .u32 (s.r b+c)=t:=ht;have q2:IntKind.wrap .u64 t=t:=DD _ (by omega);have q3:IntKind.wrap .u64 4224=4224:=rfl;have q4:decide (4224≤t)=false:=bA (by omega);have q5:t<4224:=by omega
    have q6:0≤t:=g6.1;have q7:t.toNat<4224:=a5;obtain⟨y,hy⟩: ∃y,s.stp.mem[t.toNat]?=some y:=⟨_,aF (by rw[d8];exact a5)⟩;have j7:=N1 hy;refine aC fun K d=>?_;refine bB (fun x=>x≠r∧x≠bc∧x≠E∧x≠bm) [(0,3),(1,3),(2,1),(3,3),(4,3),(5,3),(6,3),(7,1),(8,3),(9,1),(10,3),(11,3),(12,3)] [] eF (by kernel_rfl) rfl rfl ?_;simp only[dR,j,D,k,A,e2,b0,b1,a4,q1,RR,seval];refine d _ _ (aI (aA fun K d=>?_));simp only[j,k,q2,q3,q4,RR,seval];refine d _ _ (bL ?_);refine aK ?_;simp only[RR];refine aA fun K d=>?_;simp only[j,Q,k,b7,q5,q6,j7,RR,seval];refine d _ _ (bM fun F4 M4 L B=>?_);have S:=L 0;have gr:=B r;have Y:=B bc;have V:=B E;have b7:=B bm;simp only[j,k,P,A,k0,i4,RR,seval]at S gr Y V b7;have a2:=funext B
    have u:jU W inp r bm bc vo {s.stp with mem:=s.mem.set t.toNat (s.r a)} 0 M4:=by
     rw[a2];exact i.store t.toNat (s.r a) a3 (bE _ _ _) (fun b g=>cI _ _ g)
    have Z:=C.trans (H2:=M4) (by
     rw[a2]
     exact fun b o g n1 n2 n3 n4=>⟨by rw[cI _ _ n2];exact g,n4⟩)
    have j:=S;have k:=gr;have P:=Y;have A:=V;refine aG ?_;simp only[j,k,e3,RR,seval];simp only[aW,aJ,bN,seval];exact aY.run ⟨rfl,_,u.turn (by rw[bE];simp only[Mc.nx,N,d9]) (fun b g=>cI _ _ g) rfl rfl u.u1 u.u2 u.rd,I▸Z.trans (gP.turn fun b g=>cI _ _ g)⟩
   refine aA fun K d=>?_;simp only[J,e5,RR,seval];refine d _ _ (bL (aA fun K d=>?_));simp only[J,RR,seval];refine d _ _ (aU ?_ ?_)<;>intro h5
   ·obtain rfl:=aB h5
    have f:(0,if s.r a=0 then s.to c else s.nx)=(e,s'):=by simpa [tX]using f
    simp only[Prod.mk.injEq]at f;obtain⟨rfl,k8⟩:=f;refine aG ?_;simp only[j,D,Q,A,RR,seval];refine jT (AG i (decide (s.r a=0)) c (show 0≤s.pc∧s.pc≤1000000 by omega)) (fun _=>trivial) fun U H2 ⟨G,l,F⟩=>?_;subst G
    have l:jU W inp r bm bc vo s' 0 H2:=by
     rw[←k8];by_cases z:s.r a=0
     ·simp only[z,mZ,cT]at l⊢;exact l
     simp only[z,Gl,dK,cH]at l⊢;exact l
    simp only[RR,seval];simp only[aW,aJ,bN,seval];exact aY.run ⟨rfl,_,l,I▸C.trans F⟩
   refine aA fun K d=>?_;simp only[J,e6,RR,seval];refine d _ _ (bL (aA fun K d=>?_));simp only[J,e7,RR,seval];refine d _ _ (bL (aA fun K d=>?_));simp only[J,RR,seval];refine d _ _ (aU ?_ ?_)<;>intro h6
   ·obtain rfl:=aB h6
    have f:(0,s.to (s.r a))=(e,s'):=by simpa [tX]using f
    simp only[Prod.mk.injEq]at f;obtain⟨rfl,rfl⟩:=f;have a3:dX (s.r a):=Mc.r_u i a;have q1:IntKind.wrap .i64 (s.r a)=s.r a:=aS _ (by have:=a3.1;have:=a3.2;omega);have u:=i;have Z:=C;refine aG ?_;simp only[j,Q,k,q1,RR,seval];simp only[aW,aJ,bN,seval];exact aY.run ⟨rfl,_,u.turn (by rw[bE];simp only[Mc.to]) (fun b g=>cI _ _ g) rfl rfl u.u1 u.u2 u.rd,I▸Z.trans (gP.turn fun b g=>cI _ _ g)⟩
   refine aA fun K d=>?_;simp only[J,RR,seval];refine d _ _ (aU ?_ ?_)<;>intro h7
   ·obtain rfl:=aB h7
    have q0:decide ((s.rd:Int)<0)=false:=bA (by omega)
    have q9:IntKind.wrap .i64 ((s.rd:Int)+1)=((s.rd+1:Nat):Int):=by
     have:=i.rd;have :s.rd≤inp.length:=this;rw[aS _ (by omega)];omega
    have q8:(0:Int)≤(s.rd:Int):=by omega
    refine aI (aC fun K d=>?_);refine bB (fun x=>x≠r∧x≠bc∧x≠E) [(0,3),(1,3),(2,3),(3,3),(4,1),(5,3),(6,3),(7,3),(8,3),(9,3),(10,3),(11,1),(12,3),(13,3),(14,3),(15,1),(16,3),(17,3),(18,3)] [] eF (by kernel_rfl) rfl rfl ?_;simp only[dR,j,k,q0,RR,seval]
    repeat' ((refine bZ (fun h=>?_) (fun h=>?_))<;>simp only[h,j,D,Q,J,f6,k,P,A,b3,nbr,e8,c8,i8,i9,aE,c4,d7,d6,d1,d2,d3,d4,e1,e2,e3,a0,a1,b0,b1,c9,a4,e5,e6,e7,c7,cC,q0,q8,q9,RR,seval])
    all_goals
     refine d _ _ (aU ?_ ?_)<;>intro c2
     ·try (cases c2;done)
      all_goals
       have j6:inp.length≤s.rd:=by(have:=aB c2;omega)
       have j9:inp[s.rd]?=none:=dS j6;have f:s.set a 256=some (e,s'):=by simpa [tX,j9]using f
       refine aA fun K d=>?_;simp only[j,D,A,RR,seval];refine jT (rH i ⟨by decide,by decide⟩ f (by omega)) (fun _=>trivial) fun U H2 ⟨G,l,F,O⟩=>?_;subst G;subst O;simp only[RR,seval];apply d;refine aN ?_;simp only[aW,aJ,bN,RR,seval];exact aY.run ⟨rfl,_,l,I▸C.trans F⟩
     try (cases c2;done)
     all_goals
      have a5:s.rd<inp.length:=by(have:=aD c2;omega)
      obtain⟨ch,i2⟩: ∃ch,inp[s.rd]?=some ch:=⟨_,aF a5⟩;have l1:=Vw ch;have f:({s with rd:=s.rd+1}:Mc).set a (ch.toNat:Int)=some (e,s'):=by simpa [tX,i2]using f
      have q1:IntKind.wrap .u32 (ch.toNat:Int)=(ch.toNat:Int):=eH _ (by omega);refine aK ?_;simp only[RR];refine aC fun K d=>?_;refine bB (fun x=>x≠r∧x≠bc∧x≠E) [(0,3),(1,3),(2,3),(3,1),(4,3),(5,3),(6,3),(7,3),(8,1),(9,3),(10,3),(11,3)] [] eF (by kernel_rfl) rfl rfl ?_;simp only[dR,j,k,cC,q8,i2,q1,RR,seval];refine d _ _ (aA fun K d=>?_);simp only[j,k,q9,RR,seval];refine d _ _ (bM fun F5 M5 L B=>?_);have S:=L 0;have l:=L 2;have f8:=L 8;have k:=B r;have Y:=B bc;have V:=B E;simp only[j,D,P,A,b3,e8,RR,seval]at S l f8 k Y V;have a2:=funext B
      have u:jU W inp r bm bc vo ({s with rd:=s.rd+1}:Mc).stp 0 M5:=by
       rw[a2];exact i.turn (by rw[bE];simp only[Mc.stp,N]) (fun b g=>cI _ _ g) rfl rfl i.u1 i.u2 a5
      have C:=C.trans (H2:=M5) (by
       rw[a2]
       exact gP.turn fun b g=>cI _ _ g)
      have j:=S;have D:=l;have P:=Y;have A:=V;refine aG ?_;simp only[j,D,f8,A,RR,seval];refine jT (rH (s:={s with rd:=s.rd+1}) u ⟨by omega,by omega⟩ f (by show 0≤s.pc∧s.pc≤1000000;omega)) (fun _=>trivial) fun U H2 ⟨G,l,F,O⟩=>?_;subst G;subst O;simp only[RR,seval];simp only[aW,aJ,bN,seval];exact aY.run ⟨rfl,_,l,I▸C.trans F⟩
   refine aA fun K d=>?_;simp only[J,RR,seval];refine d _ _ (aU ?_ ?_)<;>intro h8
   ·obtain rfl:=aB h8
    have f:(if 65536≤s.out.length then some (4,s.stp)else some (0,{s.nx with out:=s.out++[UInt8.ofNat (IntKind.wrap .u8 (s.r a)).toNat]}))=some (e,s'):=by simpa [tX]using f
    have c6:=i.o;rw[show s.stp.out=s.out from rfl]at c6;have e0:s.out.length≤65536:=i.ol;have a3:dX (s.r a):=Mc.r_u i a;have q1:(s.r a).tmod 256=s.r a % 256:=vS a3.1;have q2:IntKind.wrap .u32 (s.r a % 256)=s.r a % 256:=eH _ (by omega);have q3:IntKind.wrap .u8 (s.r a % 256)=s.r a % 256:=IntWalk.u8_in _ (by omega)
    have k7:[AV.int .u8 (s.r a % 256)]=rE (UInt8.ofNat (IntKind.wrap .u8 (s.r a)).toNat):=by
     unfold rE;rw[IntKind.wrap_u8,UInt8.toNat_ofNat'];congr 2;omega
    have e4: ∃m,s.out.length=m∧(vo= .nsl∧m=0∨ ∃b,vo= .osl 1 b m):=⟨_,rfl,by
     rcases c6 with⟨h1,h2⟩|⟨b,h1,h2⟩
     ·exact .inl ⟨h1,by simpa using h2⟩
     exact .inr ⟨b,by simpa using h1⟩⟩
    obtain⟨m,hm,e4⟩:=e4;rcases e4 with⟨rfl,rfl⟩|⟨b9,rfl⟩
    all_goals
     refine aI (aA fun K d=>?_);simp only[j,k,RR,seval];refine d _ _ (aU ?_ ?_)<;>intro c3
     ·try (cases c3;done)
      all_goals
       have T:65536≤s.out.length:=by(have:=aB c3;omega)
       rw[bH T]at f;simp only[Option.some.injEq,Prod.mk.injEq]at f;obtain⟨rfl,rfl⟩:=f;refine aA fun K d=>?_;simp only[j,k,RR,seval];apply d;refine aN ?_;simp only[aW,aJ,bN,RR,seval];exact aY.run ⟨rfl,_,i.turn (by rw[bE];simp only[Mc.stp,N]) (fun b g=>cI _ _ g) rfl rfl i.u1 i.u2 i.rd,I▸C.trans (gP.turn fun b g=>cI _ _ g)⟩
     try (cases c3;done)
     all_goals
      have T: ¬65536≤s.out.length:=by first|omega|(have:=aD c3;omega)
      rw[aL T]at f;simp only[Option.some.injEq,Prod.mk.injEq]at f;obtain⟨rfl,rfl⟩:=f;refine aK ?_;simp only[RR];refine aA fun K d=>?_;simp only[j,Q,k,q1,q3,RR,seval];refine eG ?_;simp only[RR,seval];refine iW c6 (by simp only[aE,aQ,aV];omega) (fun _ _=>trivial) fun v' H' c5 i3 j5=>?_;have j2:=c5.cells;have k2:=c5.one1;have k6:=i3 r _ k (c6.offsz k (by decide) _ _);simp only[j2,k2,cA,List.drop,k6,RR,seval];refine d _ _ (bM fun F6 M6 L B=>?_);have S:=L 0;have k:=B r;simp only[j,RR,seval]at S k;have a2:=funext B;rw[k7]at c5;obtain⟨u,q9⟩:=i.put (c:=UInt8.ofNat (IntKind.wrap .u8 (s.r a)).toNat) (by show s.out.length<65536;omega) c5 i3 j5 (H2:=M6) (by rw[a2,bE];simp only[Mc.stp,N]) (fun b g=>by rw[a2];exact cI _ _ g);have Z:=C.trans q9;have j:=S;refine aG ?_;simp only[j,k,e3,RR,seval];simp only[aW,aJ,bN,seval];exact aY.run ⟨rfl,_,u.turn (by rw[bE];simp only[Mc.nx,N,d9]) (fun b g=>cI _ _ g) rfl rfl u.u1 u.u2 u.rd,I▸Z.trans (gP.turn fun b g=>cI _ _ g)⟩
   refine aA fun K d=>?_;simp only[J,RR,seval];refine d _ _ (aU ?_ ?_)<;>intro h9
   ·obtain rfl:=aB h9
    have f:(if s.r a<c then some (0,s.nx)else some (3,s.stp))=some (e,s'):=by simpa [tX]using f
    have u:=i;have Z:=C;refine aI (aA fun K d=>?_);simp only[D,Q,A,e2,RR,seval];refine d _ _ (aU ?_ ?_)<;>intro i0
    ·have T: ¬s.r a<c:=by first|(have:=aB i0;omega)|omega
     rw[aL T]at f;simp only[Option.some.injEq,Prod.mk.injEq]at f;obtain⟨rfl,rfl⟩:=f;refine aA fun K d=>?_;simp only[j,k,RR,seval];apply d;refine aN ?_;simp only[aW,aJ,bN,RR,seval];exact aY.run ⟨rfl,_,i.turn (by rw[bE];simp only[Mc.stp,N]) (fun b g=>cI _ _ g) rfl rfl i.u1 i.u2 i.rd,I▸C.trans (gP.turn fun b g=>cI _ _ g)⟩
    have T:s.r a<c:=by first|(have:=aD i0;omega)|omega
    rw[bH T]at f;simp only[Option.some.injEq,Prod.mk.injEq]at f;obtain⟨rfl,rfl⟩:=f;refine aK ?_;simp only[RR];refine aG ?_;simp only[j,k,e3,RR,seval];simp only[aW,aJ,bN,seval];exact aY.run ⟨rfl,_,u.turn (by rw[bE];simp only[Mc.nx,N,d9]) (fun b g=>cI _ _ g) rfl rfl u.u1 u.u2 u.rd,I▸Z.trans (gP.turn fun b g=>cI _ _ g)⟩
   refine aA fun K d=>?_;simp only[J,RR,seval];refine d _ _ (aU ?_ ?_)<;>intro i1
   ·obtain rfl:=aB i1
    have f:(1,s.stp)=(e,s'):=by simpa [tX]using f
    simp only[Prod.mk.injEq]at f;obtain⟨rfl,rfl⟩:=f;have u:=i;have Z:=C;refine aG ?_;simp only[j,k,RR,seval];simp only[aW,aJ,bN,seval];exact aY.run ⟨rfl,_,u.turn (by rw[bE];simp only[Mc.stp,N]) (fun b g=>cI _ _ g) rfl rfl u.u1 u.u2 u.rd,I▸Z.trans (gP.turn fun b g=>cI _ _ g)⟩
   have m1:=aD b8;have m2:=aD g9;have m3:=aD h3;have m4:=aD d0;have m5:=aD h4;have m6:=aD h5;have m7:=aD h6;have m8:=aD h7;have m9:=aD h8;have l5:=aD h9;have l6:=aD i1;have f7:4≤o∧o≤15:=by omega
   have c0:0≤c:=d5.1;have c1:c<16:=by have:=j4 f7;omega
   have j0:=fun x0 b4=>show _=some (AV.int .u32 (s.r c))from H5 x0 b4 s.r1 s.r2 c ⟨c0,by omega⟩
   have f:(if(eR o (s.r b) (s.r c)).2=0 then s.set a (eR o (s.r b) (s.r c)).1 else some (2,s.stp))=some (e,s'):=by
    unfold tX at f;rw[aL m1,aL m2,aL m3,bH f7]at f;exact f
   have e0:dX (s.r b):=Mc.r_u i b;have i6:dX (s.r c):=Mc.r_u i c;refine aC fun K d=>?_;refine bB (fun x=>x≠r∧x≠bc∧x≠E) [(0,3),(1,1),(2,3),(3,3),(4,1),(5,3),(6,3),(7,3),(8,3),(9,1),(10,3),(11,3),(12,1),(13,3),(14,3),(15,3),(16,3),(17,1),(18,1),(19,3),(20,3),(21,3),(22,3),(23,3)] [] eF (by kernel_rfl) rfl rfl ?_;simp only[dR,j,D,k,A,b0,b1,a4,c0,c1,j0,RR,seval];refine aO (Lx o e0 i6) ?_;simp only[RR,seval];refine d _ _ (aI (aA fun K d=>?_));simp only[RR,seval];refine d _ _ (aU ?_ ?_)<;>intro g8
   ·have T: ¬(eR o (s.r b) (s.r c)).2=0:=by simpa using g8
    rw[aL T]at f;simp only[Option.some.injEq,Prod.mk.injEq]at f;obtain⟨rfl,rfl⟩:=f;refine aA fun K d=>?_;simp only[j,k,RR,seval];apply d;refine aN ?_;simp only[aW,aJ,bN,RR,seval];exact aY.run ⟨rfl,_,i.turn (by rw[bE];simp only[Mc.stp,N]) (fun b g=>cI _ _ g) rfl rfl i.u1 i.u2 i.rd,I▸C.trans (gP.turn fun b g=>cI _ _ g)⟩
   have T:(eR o (s.r b) (s.r c)).2=0:=by simpa using g8
   rw[bH T]at f;refine aK ?_;simp only[RR];refine aG ?_;simp only[j,D,A,RR,seval];refine jT (rH i (Lh o e0 i6) f (by omega)) (fun _=>trivial) fun U H2 ⟨G,l,F,O⟩=>?_;subst G;subst O;simp only[RR,seval];simp only[aW,aJ,bN,seval];exact aY.run ⟨rfl,_,l,I▸C.trans F⟩
end
section
theorem MK (W:List Int) (d:Int) (c6:W.length≤20000) (c0: ∀w∈W,dX w∧sM w):eN dV 105 [.agg [.isl 1 (W.map gL), .int .i64 d]] (.tup [.isl 4 (W.map yF), .isl 1 (W.map fun _=>[.bool true])]):=by
 have e1:(32:Int) *(W.length:Int)≤281474976710656:=by omega
 have e2:(1:Int) *(W.length:Int)≤281474976710656:=by omega
 have e3:(W.length:Int)≤281474976710656:=by omega
 have X:(0:Int)≤(W.length:Int):=by omega
 refine bX 44 [.tmp 2, .tmp 3] func105 ?_;refine aA fun K B=>?_;simp only[RR,seval];refine aM fun D c8=>?_;simp only[RR,seval];refine B _ _ (aA fun K B=>?_);simp only[e1,X,aE,cC,RR,seval];refine aM fun J a4=>?_;have c1:J≠D:=fun e=>by rw[e]at a4;simp only[RR,seval,reduceCtorEq]at a4
 have N:=c1.symm;simp only[RR,seval];refine B _ _ (aA fun K B=>?_);simp only[N,e2,X,aE,cC,RR,seval];refine aM fun F O=>?_;have c3:F≠D:=fun e=>by rw[e]at O;simp only[N,RR,seval,reduceCtorEq]at O
 have P:=c3.symm;have U:F≠J:=fun e=>by rw[e]at O;simp only[RR,seval,reduceCtorEq]at O
 have a5:=U.symm;simp only[RR,seval];refine B _ _ (aI (aA fun K B=>?_));simp only[RR,seval];refine B _ _ (bM fun F1 M1 f g=>?_);have H:=f 1;have z:=f 2;have A:=f 3;have n:=f 4;have p:=f 5;have E:=f 6;have l:=g D;have C:=g J;have j:=g F;simp only[N,P,a5,RR,seval]at H z A n p E l C j;refine aP (eO [1,2,3,4,5] (W.length) (fun k fr M=>fr 6= .int .i64 (k:Nat)∧M D=M1 D∧M J=some (.rows 4 ((W.take k).map yF++List.replicate (W.length-k) [AV.int .i64 0, .int .i64 0, .int .i64 0, .int .i64 0]))∧M F=some (.rows 1 ((W.take k).map (fun _=>[AV.bool true])++List.replicate (W.length-k) [AV.bool false]))) ⟨E,rfl,C,j⟩ ?_);rintro k V M2 c7 ⟨Y,i,C,j⟩ I K0 a9;have H:=(I 1 rfl).trans H;have z:=(I 2 rfl).trans z;have A:=(I 3 rfl).trans A;have n:=(I 4 rfl).trans n;have p:=(I 5 rfl).trans p;have E:=Y;clear Y;have l:=i.trans l;have Q:=aX.refl [1,2,3,4,5] V;have R:=i;clear I;refine aI (aA fun K B=>?_);simp only[H,E,l,aE,RR,seval];refine B _ _ (aU ?_ ?_)<;>intro S
 ·have a3:k<W.length:=by have:=aB S;omega
  clear S;obtain⟨wd,L⟩: ∃x,W[k]?=some x:=⟨_,aF a3⟩;have b4:=N1 L;obtain⟨hu,b6⟩:=c0 wd (aZ L);have hD:=Q1 wd hu b6;obtain⟨o,a,b,c,a1⟩: ∃o a b c,yF wd=[AV.int .i64 o, .int .i64 a, .int .i64 b, .int .i64 c]:=⟨_,_,_,_,rfl⟩;rw[a1]at hD;have b2:=Ql W yF [AV.int .i64 0, .int .i64 0, .int .i64 0, .int .i64 0] L;have b3:=Ql W (fun _=>[AV.bool true]) [AV.bool false] L;have b8:=Qj W yF [AV.int .i64 0, .int .i64 0, .int .i64 0, .int .i64 0] L a1;have b9:=Qj W (fun _=>[AV.bool true]) [AV.bool false] L rfl;have a2:(k:Int)<(W.length:Int):=by omega
  refine aK ?_;simp only[RR];refine aI (aP (aA fun K B=>?_));simp only[H,E,l,cC,b4,a2,RR,seval];refine aO (hD) ?_;simp only[RR,seval];refine aM fun b7 T=>?_;have c5:=cY T l;have a6:=c5.symm;have a7:=cY T C;have c2:=a7.symm;have a8:=cY T j;have c4:=a8.symm;simp only[RR,seval];refine B _ _ (aG ?_);simp only[n,p,E,C,j,U,c2,c4,cC,b2,b3,a2,RR,seval];refine bM fun F3 M3 f g=>?_;have Z:=f 1;have t:=f 2;have u:=f 3;have v:=f 4;have y:=f 5;have g6:=f 6;have f7:=f 7;have f8:=f 8;have i:=g D;have C:=g J;have j:=g F;have b0:=g b7;simp only[H,z,A,n,p,E,l,N,P,a5,a6,a7,a8,RR,seval]at Z t u v y g6 f7 f8 i C j b0;have Q:aX [1,2,3,4,5] V F3:=aX.same f (by repeat (first|exact Q|refine aX.upd rfl ?_));have R:=(g D).trans (by(simp only[N,P,a6,aT,seval];exact R));have H:=Z;have z:=t;have A:=u;have n:=v;have p:=y;have E:=g6;have l:=i;rw[b8]at C;rw[b9]at j;refine aG ?_;simp only[E,RR,seval];rw[aS _ (by omega)];refine a9 _ _ a3 ⟨by rfl,R,C,j⟩ (by repeat (first|exact Q|refine aX.upd rfl ?_))
 have b5:k=W.length:=by have:=aD S;omega
 rw[b5,dD,Gq,List.replicate_zero,dZ]at C j;refine cF ?_;simp only[RR,seval];refine bM fun F4 M4 f g=>?_;have t:=f 2;have u:=f 3;have v:=f 4;have y:=f 5;have i:=g D;have a0:=g J;have G:=g F;simp only[z,A,n,p,l,C,j,RR,seval]at t u v y i a0 G;have z:=t;have A:=u;have n:=v;have p:=y;have l:=i;have C:=a0;have j:=G;refine oC C ?_;refine bM fun F5 M5 f g=>?_;have t:=f 2;have u:=f 3;have v:=f 4;have y:=f 5;have i:=g D;have G:=g F;simp only[tJ,cN,dO,dY,xR,Uc,Gz,Ub,and_self,aE,O4,z,A,n,p,l,j,N,U,aE,RR,seval]at t u v y i G;have z:=t;have A:=u;have n:=v;have p:=y;have l:=i;have j:=G;refine bM fun F6 M6 f g=>?_;have t:=f 2;have u:=f 3;have v:=f 4;have y:=f 5;have i:=g D;have G:=g F;simp only[z,A,n,p,l,j,seval]at t u v y i G;have z:=t;have A:=u;have n:=v;have p:=y;have l:=i;have j:=G;refine oC j ?_;refine bM fun F7 M7 f g=>?_;have t:=f 2;have u:=f 3;have v:=f 4;have y:=f 5;have i:=g D;simp only[tJ,cN,dO,dY,xR,Uc,Gz,Ub,and_self,aE,z,A,n,p,l,P,aE,seval]at t u v y i;have z:=t;have A:=u;have n:=v;have p:=y;have l:=i;refine aA fun K B=>?_;simp only[n,p,RR,seval];apply B;refine aN ?_;simp only[aW,aJ,bN,RR,seval];refine aY.pure ?_;rfl
theorem CU (W:List Int) (D:Nat) (Z:0<D∧D≤32768):eN dV 41 [.agg [.isl 1 (W.map gL), .int .i64 (D:Int)]] (.agg [.int .i64 0, .int .u32 0, .int .u32 0, .int .u32 0, .int .u32 0, .int .u32 0, .int .u32 0, .int .u32 0, .int .u32 0, .int .u32 0, .int .u32 0, .int .u32 0, .int .u32 0, .int .u32 0, .int .u32 0, .int .u32 0, .int .u32 0, .isl 1 (List.replicate D [.int .u32 0]), .int .i64 0, .str [], .int .i64 0, .int .i64 0]):=by
 have L:(4:Int) *(D:Int)≤281474976710656:=by omega
 have M:decide ((0:Int)<(D:Int))=true:=cD (by omega);have N:decide ((D:Int)≤32768)=true:=cD (by omega);have O:(0:Int)≤(D:Int):=by omega
 refine bX 17 [.cell 2 93] func41 ?_;refine aA fun K b=>?_;simp only[RR,seval];refine aM fun d a0=>?_;simp only[RR,seval];refine aM fun f E=>?_;have R:f≠d:=fun e=>by rw[e]at E;simp only[RR,seval,reduceCtorEq]at E
 have k:=R.symm;simp only[RR,seval];refine b _ _ (aA fun K b=>?_);simp only[RR,seval];refine aM fun g t=>?_;have S:g≠d:=fun e=>by rw[e]at t;simp only[k,RR,seval,reduceCtorEq]at t
 have u:=S.symm;have T:g≠f:=fun e=>by rw[e]at t;simp only[RR,seval,reduceCtorEq]at t
 have I:=T.symm;simp only[RR,seval];refine b _ _ (aI (aA fun K b=>?_));simp only[k,u,M,N,RR,seval];refine b _ _ (cR (aG ?_));simp only[k,u,L,O,cC,RR,seval];refine aM fun l c=>?_;have P:l≠d:=fun e=>by rw[e]at c;simp only[k,u,RR,seval,reduceCtorEq]at c
 have G:=P.symm;have Q:l≠f:=fun e=>by rw[e]at c;simp only[I,RR,seval,reduceCtorEq]at c
 have H:=Q.symm;have F:l≠g:=fun e=>by rw[e]at c;simp only[RR,seval,reduceCtorEq]at c
 have J:=F.symm;simp only[J,RR,seval];refine bM fun U X j a=>?_;have i:=j 2;have n:=j 3;have v:=a d;have o:=a f;have p:=a g;have C:=a l;simp only[k,u,I,G,H,F,RR,seval]at i n v o p C;refine oC C ?_;refine bM fun V Y j a=>?_;have x:=j 2;have y:=j 3;have z:=a d;have A:=a f;have B:=a g;simp only[tJ,cN,dO,dY,xR,Uc,Gz,OZ,PC,Ub,and_self,fJ,i,n,v,o,p,G,H,J,seval]at x y z A B;have i:=x;have n:=y;have v:=z;have o:=A;have p:=B;refine aA fun K b=>?_;simp only[i,n,o,p,RR,seval];apply b;refine aN ?_;simp only[aW,aJ,bN,i,RR,seval];refine aY.pure ?_;rfl
end
theorem NG (W:List Int) (inp:dC) (D:Nat) (fu:Int) (G:Nat→Mc) (en:Nat→Int) (k:Nat) (hD:D=4224) (k0:W.length≤20000) (k7: ∀w∈W,dX w∧sM w) (l5:inp.length≤2000000) (h0:G 0=D2)
  (hs: ∀i,i≤k→en i=0∧(G i).st≤1000000000000∧mX W inp (G i)=some (en (i+1),G (i+1))) (he:en (k+1)≠0) (n1:k≤1000000000000) (n0:(k:Int)+2≤fu):
  oN dV 68 [.agg [.isl 1 (W.map gL), .int .i64 (D:Int)], .str inp, .agg [.int .i64 0, .int .u32 0, .int .u32 0, .int .u32 0, .int .u32 0, .int .u32 0, .int .u32 0, .int .u32 0, .int .u32 0, .int .u32 0, .int .u32 0, .int .u32 0, .int .u32 0, .int .u32 0, .int .u32 0, .int .u32 0, .int .u32 0, .isl 1 (List.replicate D [.int .u32 0]), .int .i64 0, .str [], .int .i64 0, .int .i64 0], .int .i64 fu] qZ (fun ae _=> ∃vc,ae= .ret (.tup [.agg (R2 (G (k+1)) (.isl 1 ((G (k+1)).mem.map gL)) (en (k+1))),vc])):=by
 have hC:=MK W (D:Int) k0 k7;have e1:(8:Int) *(W.length:Int)≤281474976710656:=by omega
 have e4:(0:Int)≤(W.length:Int):=by omega
 have e5:D *4≤140737488355328:=by omega
 have i9:(List.replicate D [AV.int .u32 0]).length=D:=fJ
 have i8:(List.replicate D [AV.int .u32 0]).all (fun r=>r.all one)=true:=by
  rw[dB];intro x hx;rw[QA hx];rfl
 have l8:List.replicate D [AV.int .u32 0]=D2.mem.map gL:=by rw[hD];exact NX.symm
 generalize hL:List.replicate D [AV.int .u32 0]=L at *;refine bX 70 [.cell 8 93, .tmp 9] func68 ?_;refine aA fun K hK=>?_;simp only[bT,RR,seval];refine aM fun C n2=>?_;simp only[bT,RR,seval];refine aM fun B k6=>?_;have k9:B≠C:=fun e=>by rw[e]at k6;simp only[RR,seval,reduceCtorEq]at k6
 have i6:=k9.symm;simp only[bT,RR,seval];refine aM fun v i5=>?_;have m4:v≠C:=fun e=>by rw[e]at i5;simp only[i6,RR,seval,reduceCtorEq]at i5
 have k8:=m4.symm;have m5:v≠B:=fun e=>by rw[e]at i5;simp only[RR,seval,reduceCtorEq]at i5
 have m3:=m5.symm;simp only[RR,seval];refine hK _ _ (aA fun K hK=>?_);simp only[i6,k8,bT,cQ,RR,seval];refine aO (hC) ?_;simp only[RR,seval];refine hK _ _ (bM fun F1 M1 E hH=>?_);have f1:=E 1;have f3:=E 3;have f4:=E 4;have f6:=E 6;have N:=E 8;have f9:=E 9;have g5:=E 10;have g7:=E 11;have u:=hH C;have t:=hH B;have g:=hH v;simp only[i6,k8,m3,RR,seval]at f1 f3 f4 f6 N f9 g5 g7 u t g;refine aC fun K hK=>?_;refine fQ (fun fr M=>aX [1,3,4,6,8,9,10,11] F1 fr∧M C=M1 C∧M B=M1 B∧M v=M1 v∧ ∃y p,fr 12= .ptr 22 y 0 0∧M y=some (.rows 22 [[.int .i64 0, .int .u32 0, .int .u32 0, .int .u32 0, .int .u32 0, .int .u32 0, .int .u32 0, .int .u32 0, .int .u32 0, .int .u32 0, .int .u32 0, .int .u32 0, .int .u32 0, .int .u32 0, .int .u32 0, .int .u32 0, .int .u32 0, .osl 1 p D, .int .i64 0, .str [], .int .i64 0, .int .i64 0]])∧M p=some (.rows 1 L)∧y≠p) (fun m7 j0=>?_) ?_
 ·refine lK (fun x=>x≠B) eF (by kernel_rfl) fun hd=>?_
  refine hI [(0,3),(1,0),(2,3),(3,0),(5,3),(6,0),(8,3),(9,0),(10,3),(11,0),(12,3),(13,0)] hd (m:=5) rfl (by kernel_rfl) rfl rfl ?_;simp only[dR,fX,f6,t,bT,RR,seval];refine lB hd (by kernel_rfl:Region.ready .any _ _=[4,15]) (by simp) ⟨?_, ?_,trivial⟩
  ·simp only[RR,seval]
   refine wW fun c6 b2=>?_;have h4:=cY b2 u;have d6:=h4.symm;have h5:=cY b2 t;have d7:=h5.symm;have h6:=cY b2 g;have d9:=h6.symm;simp only[RR,seval];refine lB hd (by kernel_rfl:Region.ready .any _ _=[7,15]) (by simp) ⟨?_, ?_,trivial⟩
   ·simp only[i8,bT,RR,seval]
    refine Lc (b:=c6) (bE _ _ _) (by rfl) (by(simp only[aV]);omega) (by repeat (trivial)) fun p b1=>?_;have f0:p≠C:=by rcases b1 with e|e;rw[e];exact h4;intro F;rw[F]at e;simp only[u,d6,RR,seval,reduceCtorEq]at e
    have f7:=f0.symm;have f2:p≠B:=by rcases b1 with e|e;rw[e];exact h5;intro F;rw[F]at e;simp only[t,d7,RR,seval,reduceCtorEq]at e
    have g0:=f2.symm;have f5:p≠v:=by rcases b1 with e|e;rw[e];exact h6;intro F;rw[F]at e;simp only[g,d9,RR,seval,reduceCtorEq]at e
    have g2:=f5.symm;simp only[i9,bT,cQ,RR,seval];refine hI [(14,3),(15,1),(16,1)] hd (m:=0) rfl (by kernel_rfl) rfl rfl ?_;simp only[dR,bT,cQ,RR,seval];refine aM fun y H=>?_;have e6:y≠C:=fun e=>by rw[e]at H;simp only[u,d6,f7,RR,seval,reduceCtorEq]at H
    have c4:=e6.symm;have c1:y≠B:=fun e=>by rw[e]at H;simp only[t,d7,g0,RR,seval,reduceCtorEq]at H
    have c5:=c1.symm;have e9:y≠v:=fun e=>by rw[e]at H;simp only[g,d9,g2,RR,seval,reduceCtorEq]at H
    have d8:=e9.symm;have c2:y≠p:=fun e=>by rw[e]at H;simp only[RR,seval,reduceCtorEq]at H
    have e7:=c2.symm;simp only[c1,bT,cQ,RR,seval];refine jG (by kernel_rfl) ?_;simp only[RR,seval];exact j0 _ _ ⟨(by repeat (first|exact aX.refl _ _|refine aX.upd rfl ?_)),(by(simp only[u,d6,f7,c4,aT,seval];done)),(by(simp only[t,d7,g0,c5,aT,seval];done)),(by(simp only[g,d9,g2,d8,aT,seval];done)),y,p,(by rfl),(by(simp only[aT,seval];done)),(by(simp only[e7,aT,seval];done)),c2⟩
   simp only[bT,RR,seval];refine aM fun y H=>?_;have e6:y≠C:=fun e=>by rw[e]at H;simp only[u,d6,RR,seval,reduceCtorEq]at H
   have c4:=e6.symm;have c1:y≠B:=fun e=>by rw[e]at H;simp only[t,d7,RR,seval,reduceCtorEq]at H
   have c5:=c1.symm;have e9:y≠v:=fun e=>by rw[e]at H;simp only[g,d9,RR,seval,reduceCtorEq]at H
   have d8:=e9.symm;have i2:y≠c6:=fun e=>by rw[e]at H;simp only[RR,seval,reduceCtorEq]at H
   have i3:=i2.symm;simp only[RR,seval];refine hI [(7,1),(14,3),(16,1)] hd (m:=0) rfl (by kernel_rfl) rfl rfl ?_;simp only[dR,i8,bT,RR,seval];refine Lc (b:=c6) (by(simp only[i3,aT,seval];rfl)) (by rfl) (by(simp only[aV]);omega) (by repeat (trivial)) fun p b1=>?_;have f0:p≠C:=by rcases b1 with e|e;rw[e];exact h4;intro F;rw[F]at e;simp only[u,d6,c4,RR,seval,reduceCtorEq]at e
   have f7:=f0.symm;have f2:p≠B:=by rcases b1 with e|e;rw[e];exact h5;intro F;rw[F]at e;simp only[t,d7,c5,RR,seval,reduceCtorEq]at e
   have g0:=f2.symm;have f5:p≠v:=by rcases b1 with e|e;rw[e];exact h6;intro F;rw[F]at e;simp only[g,d9,d8,RR,seval,reduceCtorEq]at e
   have g2:=f5.symm;have e7:p≠y:=by rcases b1 with e|e;rw[e];exact i3;intro F;rw[F]at e;simp only[RR,seval,reduceCtorEq]at e
   have c2:=e7.symm;simp only[c1,i2,c2,i9,bT,cQ,RR,seval];refine jG (by kernel_rfl) ?_;simp only[RR,seval];exact j0 _ _ ⟨(by repeat (first|exact aX.refl _ _|refine aX.upd rfl ?_)),(by(simp only[u,d6,c4,f7,aT,seval];done)),(by(simp only[t,d7,c5,g0,aT,seval];done)),(by(simp only[g,d9,d8,g2,aT,seval];done)),y,p,(by rfl),(by(simp only[aT,seval];done)),(by(simp only[e7,aT,seval];done)),c2⟩
  simp only[bT,RR,seval];refine aM fun y H=>?_;have e6:=cY H u;have c4:=e6.symm;have c1:=cY H t;have c5:=c1.symm;have e9:=cY H g;have d8:=e9.symm;simp only[RR,seval];refine hI [(4,1),(7,1),(14,3),(16,1)] hd (m:=0) rfl (by kernel_rfl) rfl rfl ?_;simp only[dR,RR,seval];refine wW fun c6 b2=>?_;have h4:c6≠C:=fun e=>by rw[e]at b2;simp only[u,c4,RR,seval,reduceCtorEq]at b2
  have d6:=h4.symm;have h5:c6≠B:=fun e=>by rw[e]at b2;simp only[t,c5,RR,seval,reduceCtorEq]at b2
  have d7:=h5.symm;have h6:c6≠v:=fun e=>by rw[e]at b2;simp only[g,d8,RR,seval,reduceCtorEq]at b2
  have d9:=h6.symm;have i3:c6≠y:=fun e=>by rw[e]at b2;simp only[RR,seval,reduceCtorEq]at b2
  have i2:=i3.symm;simp only[i8,bT,RR,seval];refine Lc (b:=c6) (bE _ _ _) (by rfl) (by(simp only[aV]);omega) (by repeat (trivial)) fun p b1=>?_;have f0:p≠C:=by rcases b1 with e|e;rw[e];exact h4;intro F;rw[F]at e;simp only[u,c4,d6,RR,seval,reduceCtorEq]at e
  have f7:=f0.symm;have f2:p≠B:=by rcases b1 with e|e;rw[e];exact h5;intro F;rw[F]at e;simp only[t,c5,d7,RR,seval,reduceCtorEq]at e
  have g0:=f2.symm;have f5:p≠v:=by rcases b1 with e|e;rw[e];exact h6;intro F;rw[F]at e;simp only[g,d8,d9,RR,seval,reduceCtorEq]at e
  have g2:=f5.symm;have e7:p≠y:=by rcases b1 with e|e;rw[e];exact i3;intro F;rw[F]at e;simp only[i2,RR,seval,reduceCtorEq]at e
  have c2:=e7.symm;simp only[c1,i2,c2,i9,bT,cQ,RR,seval];refine jG (by kernel_rfl) ?_;simp only[RR,seval];exact j0 _ _ ⟨(by repeat (first|exact aX.refl _ _|refine aX.upd rfl ?_)),(by(simp only[u,c4,d6,f7,aT,seval];done)),(by(simp only[t,c5,d7,g0,aT,seval];done)),(by(simp only[g,d8,d9,g2,aT,seval];done)),y,p,(by rfl),(by(simp only[aT,seval];done)),(by(simp only[e7,aT,seval];done)),c2⟩
 rintro F2 M2 ⟨I,e0,e3,c0,y,p,i7,z,A,c2⟩;simp only[iL];apply hK;have f1:=(I 1 rfl).trans f1;have f3:=(I 3 rfl).trans f3;have f4:=(I 4 rfl).trans f4;have f6:=(I 6 rfl).trans f6;have N:=(I 8 rfl).trans N;have f9:=(I 9 rfl).trans f9;have g5:=(I 10 rfl).trans g5;have g7:=(I 11 rfl).trans g7;have u:=e0.trans u;have t:=e3.trans t;have g:=c0.trans g;clear I e0 e3 c0;have e7:=c2.symm;have e6:y≠C:=fun e=>by rw[e,u]at z;cases z
 have c1:y≠B:=fun e=>by rw[e,t]at z;cases z
 have e9:y≠v:=fun e=>by rw[e,g]at z;cases z
 have f0:p≠C:=fun e=>by rw[e,u]at A;cases A
 have f2:p≠B:=fun e=>by rw[e,t]at A;cases A
 have f5:p≠v:=fun e=>by rw[e,g]at A;cases A
 have c4:=e6.symm;have c5:=c1.symm;have d8:=e9.symm;have f7:=f0.symm;have g0:=f2.symm;have g2:=f5.symm;refine bM fun F3 M3 E hH=>?_;have g1:=E 1;have g3:=E 3;have g4:=E 4;have g6:=E 6;have g8:=E 8;have g9:=E 9;have j5:=E 10;have j6:=E 11;have j7:=E 12;have e0:=hH C;have e3:=hH B;have c0:=hH v;have h8:=hH y;have h9:=hH p;simp only[f1,f3,f4,f6,N,f9,g5,g7,i7,u,t,g,z,A,seval]at g1 g3 g4 g6 g8 g9 j5 j6 j7 e0 e3 c0 h8 h9;have f1:=g1;have f3:=g3;have f4:=g4;have f6:=g6;have N:=g8;have f9:=g9;have g5:=j5;have g7:=j6;have i7:=j7;have u:=e0;have t:=e3;have g:=c0;have z:=h8;have A:=h9;refine aC fun K hK=>?_;refine fQ (fun fr M=>aX [3,8,9] F3 fr∧M C=M3 C∧M B=M3 B∧M v=M3 v∧M y=M3 y∧M p=M3 p∧ ∃j l o,fr 13= .ptr 28 j 0 0∧M j=some (.rows 28 [[.int .i64 0, .int .u32 0, .int .u32 0, .int .u32 0, .int .u32 0, .int .u32 0, .int .u32 0, .int .u32 0, .int .u32 0, .int .u32 0, .int .u32 0, .int .u32 0, .int .u32 0, .int .u32 0, .int .u32 0, .int .u32 0, .int .u32 0, .osl 1 p D, .int .i64 0, .str [], .int .i64 0, .int .i64 0, .osl 1 l 0, .isl 4 (W.map yF), .isl 1 (W.map fun _=>[.bool true]), .isl 1 (W.map gL), .str inp, .osl 1 o W.length]])∧M l=some (.rows 1 [])∧M o=some (.rows 1 (List.replicate W.length [.int .i64 0]))∧l≠p∧o≠p∧l≠o) (fun m8 h2=>?_) ?_
 ·refine lK (fun x=>x≠C∧x≠B∧x≠y) eF (by kernel_rfl) fun hd=>?_
  refine hI [(0,0),(1,3),(2,0),(4,3),(5,3),(6,3),(7,0),(8,3),(9,3),(10,0),(11,3)] hd (m:=5) rfl (by kernel_rfl) rfl rfl ?_;simp only[dR,fX,f1,f4,f6,g5,g7,i7,u,t,z,k9,i6,e6,c1,c4,c5,aE,bT,RR,seval];refine lB hd (by kernel_rfl:Region.ready .any _ _=[3,12,14]) (by simp) ⟨?_, ?_, ?_,trivial⟩
  ·simp only[rO,RR,seval]
   refine aM fun l d=>?_;have c9:=cY d u;have Z:=c9.symm;have d0:=cY d t;have a2:=d0.symm;have d1:=cY d g;have a4:=d1.symm;have c8:=cY d z;have S:=c8.symm;have P:=cY d A;have V:=P.symm;simp only[RR,seval];refine lB hd (by kernel_rfl:Region.ready .any _ _=[12,14]) (by simp) ⟨?_, ?_,trivial⟩
   ·simp only[e1,e4,cC,bT,RR,seval]
    refine aM fun o f=>?_;have d3:o≠C:=fun e=>by rw[e]at f;simp only[u,Z,RR,seval,reduceCtorEq]at f
    have a0:=d3.symm;have d4:o≠B:=fun e=>by rw[e]at f;simp only[t,a2,RR,seval,reduceCtorEq]at f
    have a3:=d4.symm;have d5:o≠v:=fun e=>by rw[e]at f;simp only[g,a4,RR,seval,reduceCtorEq]at f
    have a5:=d5.symm;have d2:o≠y:=fun e=>by rw[e]at f;simp only[z,S,RR,seval,reduceCtorEq]at f
    have T:=d2.symm;have Q:o≠p:=fun e=>by rw[e]at f;simp only[A,V,RR,seval,reduceCtorEq]at f
    have X:=Q.symm;have b7:o≠l:=fun e=>by rw[e]at f;simp only[RR,seval,reduceCtorEq]at f
    have J:=b7.symm;simp only[RR,seval];refine hI [(13,3),(14,1),(15,1)] hd (m:=0) rfl (by kernel_rfl) rfl rfl ?_;simp only[dR,bT,cQ,RR,seval];refine aM fun j a=>?_;have a7:j≠C:=fun e=>by rw[e]at a;simp only[u,Z,a0,RR,seval,reduceCtorEq]at a
    have Y:=a7.symm;have a8:j≠B:=fun e=>by rw[e]at a;simp only[t,a2,a3,RR,seval,reduceCtorEq]at a
    have a1:=a8.symm;have c3:j≠v:=fun e=>by rw[e]at a;simp only[g,a4,a5,RR,seval,reduceCtorEq]at a
    have O:=c3.symm;have a6:j≠y:=fun e=>by rw[e]at a;simp only[z,S,T,RR,seval,reduceCtorEq]at a
    have R:=a6.symm;have c7:j≠p:=fun e=>by rw[e]at a;simp only[A,V,X,RR,seval,reduceCtorEq]at a
    have U:=c7.symm;have b3:j≠l:=fun e=>by rw[e]at a;simp only[J,RR,seval,reduceCtorEq]at a
    have a9:=b3.symm;have b5:j≠o:=fun e=>by rw[e]at a;simp only[RR,seval,reduceCtorEq]at a
    have b0:=b5.symm;simp only[a7,a8,a6,bT,cQ,RR,seval];refine jG (by kernel_rfl) ?_;simp only[RR,seval];exact h2 _ _ ⟨(by repeat (first|exact aX.refl _ _|refine aX.upd rfl ?_)),(by(simp only[u,Z,a0,Y,aT,seval];done)),(by(simp only[t,a2,a3,a1,aT,seval];done)),(by(simp only[g,a4,a5,O,aT,seval];done)),(by(simp only[z,S,T,R,aT,seval];done)),(by(simp only[A,V,X,U,aT,seval];done)),j,l,o,(by rfl),(by(simp only[aT,seval];done)),(by(simp only[J,a9,aT,seval];done)),(by(simp only[b0,aT,seval];done)),P,Q,J⟩
   simp only[bT,RR,seval];refine aM fun j a=>?_;have a7:j≠C:=fun e=>by rw[e]at a;simp only[u,Z,RR,seval,reduceCtorEq]at a
   have Y:=a7.symm;have a8:j≠B:=fun e=>by rw[e]at a;simp only[t,a2,RR,seval,reduceCtorEq]at a
   have a1:=a8.symm;have c3:j≠v:=fun e=>by rw[e]at a;simp only[g,a4,RR,seval,reduceCtorEq]at a
   have O:=c3.symm;have a6:j≠y:=fun e=>by rw[e]at a;simp only[z,S,RR,seval,reduceCtorEq]at a
   have R:=a6.symm;have c7:j≠p:=fun e=>by rw[e]at a;simp only[A,V,RR,seval,reduceCtorEq]at a
   have U:=c7.symm;have b3:j≠l:=fun e=>by rw[e]at a;simp only[RR,seval,reduceCtorEq]at a
   have a9:=b3.symm;simp only[RR,seval];refine hI [(12,1),(13,3),(15,1)] hd (m:=0) rfl (by kernel_rfl) rfl rfl ?_;simp only[dR,e1,e4,cC,bT,RR,seval];refine aM fun o f=>?_;have d3:o≠C:=fun e=>by rw[e]at f;simp only[u,Z,Y,RR,seval,reduceCtorEq]at f
   have a0:=d3.symm;have d4:o≠B:=fun e=>by rw[e]at f;simp only[t,a2,a1,RR,seval,reduceCtorEq]at f
   have a3:=d4.symm;have d5:o≠v:=fun e=>by rw[e]at f;simp only[g,a4,O,RR,seval,reduceCtorEq]at f
   have a5:=d5.symm;have d2:o≠y:=fun e=>by rw[e]at f;simp only[z,S,R,RR,seval,reduceCtorEq]at f
   have T:=d2.symm;have Q:o≠p:=fun e=>by rw[e]at f;simp only[A,V,U,RR,seval,reduceCtorEq]at f
   have X:=Q.symm;have b7:o≠l:=fun e=>by rw[e]at f;simp only[a9,RR,seval,reduceCtorEq]at f
   have J:=b7.symm;have b0:o≠j:=fun e=>by rw[e]at f;simp only[RR,seval,reduceCtorEq]at f
   have b5:=b0.symm;simp only[a7,a8,a6,b5,bT,cQ,RR,seval];refine jG (by kernel_rfl) ?_;simp only[RR,seval];exact h2 _ _ ⟨(by repeat (first|exact aX.refl _ _|refine aX.upd rfl ?_)),(by(simp only[u,Z,Y,a0,aT,seval];done)),(by(simp only[t,a2,a1,a3,aT,seval];done)),(by(simp only[g,a4,O,a5,aT,seval];done)),(by(simp only[z,S,R,T,aT,seval];done)),(by(simp only[A,V,U,X,aT,seval];done)),j,l,o,(by rfl),(by(simp only[aT,seval];done)),(by(simp only[a9,J,aT,seval];done)),(by(simp only[b0,aT,seval];done)),P,Q,J⟩
  ·simp only[e1,e4,cC,bT,RR,seval]
   refine aM fun o f=>?_;have d3:=cY f u;have a0:=d3.symm;have d4:=cY f t;have a3:=d4.symm;have d5:=cY f g;have a5:=d5.symm;have d2:=cY f z;have T:=d2.symm;have Q:=cY f A;have X:=Q.symm;simp only[RR,seval];refine lB hd (by kernel_rfl:Region.ready .any _ _=[3,14]) (by simp) ⟨?_, ?_,trivial⟩
   ·simp only[rO,RR,seval]
    refine aM fun l d=>?_;have c9:l≠C:=fun e=>by rw[e]at d;simp only[u,a0,RR,seval,reduceCtorEq]at d
    have Z:=c9.symm;have d0:l≠B:=fun e=>by rw[e]at d;simp only[t,a3,RR,seval,reduceCtorEq]at d
    have a2:=d0.symm;have d1:l≠v:=fun e=>by rw[e]at d;simp only[g,a5,RR,seval,reduceCtorEq]at d
    have a4:=d1.symm;have c8:l≠y:=fun e=>by rw[e]at d;simp only[z,T,RR,seval,reduceCtorEq]at d
    have S:=c8.symm;have P:l≠p:=fun e=>by rw[e]at d;simp only[A,X,RR,seval,reduceCtorEq]at d
    have V:=P.symm;have J:l≠o:=fun e=>by rw[e]at d;simp only[RR,seval,reduceCtorEq]at d
    have b7:=J.symm;simp only[RR,seval];refine hI [(13,3),(14,1),(15,1)] hd (m:=0) rfl (by kernel_rfl) rfl rfl ?_;simp only[dR,bT,cQ,RR,seval];refine aM fun j a=>?_;have a7:j≠C:=fun e=>by rw[e]at a;simp only[u,a0,Z,RR,seval,reduceCtorEq]at a
    have Y:=a7.symm;have a8:j≠B:=fun e=>by rw[e]at a;simp only[t,a3,a2,RR,seval,reduceCtorEq]at a
    have a1:=a8.symm;have c3:j≠v:=fun e=>by rw[e]at a;simp only[g,a5,a4,RR,seval,reduceCtorEq]at a
    have O:=c3.symm;have a6:j≠y:=fun e=>by rw[e]at a;simp only[z,T,S,RR,seval,reduceCtorEq]at a
    have R:=a6.symm;have c7:j≠p:=fun e=>by rw[e]at a;simp only[A,X,V,RR,seval,reduceCtorEq]at a
    have U:=c7.symm;have b5:j≠o:=fun e=>by rw[e]at a;simp only[b7,RR,seval,reduceCtorEq]at a
    have b0:=b5.symm;have b3:j≠l:=fun e=>by rw[e]at a;simp only[RR,seval,reduceCtorEq]at a
    have a9:=b3.symm;simp only[a7,a8,a6,bT,cQ,RR,seval];refine jG (by kernel_rfl) ?_;simp only[RR,seval];exact h2 _ _ ⟨(by repeat (first|exact aX.refl _ _|refine aX.upd rfl ?_)),(by(simp only[u,a0,Z,Y,aT,seval];done)),(by(simp only[t,a3,a2,a1,aT,seval];done)),(by(simp only[g,a5,a4,O,aT,seval];done)),(by(simp only[z,T,S,R,aT,seval];done)),(by(simp only[A,X,V,U,aT,seval];done)),j,l,o,(by rfl),(by(simp only[aT,seval];done)),(by(simp only[a9,aT,seval];done)),(by(simp only[b7,b0,aT,seval];done)),P,Q,J⟩
   simp only[bT,RR,seval];refine aM fun j a=>?_;have a7:j≠C:=fun e=>by rw[e]at a;simp only[u,a0,RR,seval,reduceCtorEq]at a
   have Y:=a7.symm;have a8:j≠B:=fun e=>by rw[e]at a;simp only[t,a3,RR,seval,reduceCtorEq]at a
   have a1:=a8.symm;have c3:j≠v:=fun e=>by rw[e]at a;simp only[g,a5,RR,seval,reduceCtorEq]at a
   have O:=c3.symm;have a6:j≠y:=fun e=>by rw[e]at a;simp only[z,T,RR,seval,reduceCtorEq]at a
   have R:=a6.symm;have c7:j≠p:=fun e=>by rw[e]at a;simp only[A,X,RR,seval,reduceCtorEq]at a
   have U:=c7.symm;have b5:j≠o:=fun e=>by rw[e]at a;simp only[RR,seval,reduceCtorEq]at a
   have b0:=b5.symm;simp only[RR,seval];refine hI [(3,1),(13,3),(15,1)] hd (m:=0) rfl (by kernel_rfl) rfl rfl ?_;simp only[dR,rO,RR,seval];refine aM fun l d=>?_;have c9:l≠C:=fun e=>by rw[e]at d;simp only[u,a0,Y,RR,seval,reduceCtorEq]at d
   have Z:=c9.symm;have d0:l≠B:=fun e=>by rw[e]at d;simp only[t,a3,a1,RR,seval,reduceCtorEq]at d
   have a2:=d0.symm;have d1:l≠v:=fun e=>by rw[e]at d;simp only[g,a5,O,RR,seval,reduceCtorEq]at d
   have a4:=d1.symm;have c8:l≠y:=fun e=>by rw[e]at d;simp only[z,T,R,RR,seval,reduceCtorEq]at d
   have S:=c8.symm;have P:l≠p:=fun e=>by rw[e]at d;simp only[A,X,U,RR,seval,reduceCtorEq]at d
   have V:=P.symm;have J:l≠o:=fun e=>by rw[e]at d;simp only[b0,RR,seval,reduceCtorEq]at d
   have b7:=J.symm;have a9:l≠j:=fun e=>by rw[e]at d;simp only[RR,seval,reduceCtorEq]at d
   have b3:=a9.symm;simp only[a7,a8,a6,b3,bT,cQ,RR,seval];refine jG (by kernel_rfl) ?_;simp only[RR,seval];exact h2 _ _ ⟨(by repeat (first|exact aX.refl _ _|refine aX.upd rfl ?_)),(by(simp only[u,a0,Y,Z,aT,seval];done)),(by(simp only[t,a3,a1,a2,aT,seval];done)),(by(simp only[g,a5,O,a4,aT,seval];done)),(by(simp only[z,T,R,S,aT,seval];done)),(by(simp only[A,X,U,V,aT,seval];done)),j,l,o,(by rfl),(by(simp only[aT,seval];done)),(by(simp only[a9,aT,seval];done)),(by(simp only[b0,b7,aT,seval];done)),P,Q,J⟩
  simp only[bT,RR,seval];refine aM fun j a=>?_;have a7:=cY a u;have Y:=a7.symm;have a8:=cY a t;have a1:=a8.symm;have c3:=cY a g;have O:=c3.symm;have a6:=cY a z;have R:=a6.symm;have c7:=cY a A;have U:=c7.symm;simp only[RR,seval];refine lB hd (by kernel_rfl:Region.ready .any _ _=[3,12]) (by simp) ⟨?_, ?_,trivial⟩
  ·simp only[rO,RR,seval]
   refine aM fun l d=>?_;have c9:l≠C:=fun e=>by rw[e]at d;simp only[u,Y,RR,seval,reduceCtorEq]at d
   have Z:=c9.symm;have d0:l≠B:=fun e=>by rw[e]at d;simp only[t,a1,RR,seval,reduceCtorEq]at d
   have a2:=d0.symm;have d1:l≠v:=fun e=>by rw[e]at d;simp only[g,O,RR,seval,reduceCtorEq]at d
   have a4:=d1.symm;have c8:l≠y:=fun e=>by rw[e]at d;simp only[z,R,RR,seval,reduceCtorEq]at d
   have S:=c8.symm;have P:l≠p:=fun e=>by rw[e]at d;simp only[A,U,RR,seval,reduceCtorEq]at d
   have V:=P.symm;have a9:l≠j:=fun e=>by rw[e]at d;simp only[RR,seval,reduceCtorEq]at d
   have b3:=a9.symm;simp only[RR,seval];refine hI [(12,1),(13,3),(15,1)] hd (m:=0) rfl (by kernel_rfl) rfl rfl ?_;simp only[dR,e1,e4,cC,bT,RR,seval];refine aM fun o f=>?_;have d3:o≠C:=fun e=>by rw[e]at f;simp only[u,Y,Z,RR,seval,reduceCtorEq]at f
   have a0:=d3.symm;have d4:o≠B:=fun e=>by rw[e]at f;simp only[t,a1,a2,RR,seval,reduceCtorEq]at f
   have a3:=d4.symm;have d5:o≠v:=fun e=>by rw[e]at f;simp only[g,O,a4,RR,seval,reduceCtorEq]at f
   have a5:=d5.symm;have d2:o≠y:=fun e=>by rw[e]at f;simp only[z,R,S,RR,seval,reduceCtorEq]at f
   have T:=d2.symm;have Q:o≠p:=fun e=>by rw[e]at f;simp only[A,U,V,RR,seval,reduceCtorEq]at f
   have X:=Q.symm;have b0:o≠j:=fun e=>by rw[e]at f;simp only[b3,RR,seval,reduceCtorEq]at f
   have b5:=b0.symm;have b7:o≠l:=fun e=>by rw[e]at f;simp only[RR,seval,reduceCtorEq]at f
   have J:=b7.symm;simp only[a7,a8,a6,b3,b5,bT,cQ,RR,seval];refine jG (by kernel_rfl) ?_;simp only[RR,seval];exact h2 _ _ ⟨(by repeat (first|exact aX.refl _ _|refine aX.upd rfl ?_)),(by(simp only[u,Y,Z,a0,aT,seval];done)),(by(simp only[t,a1,a2,a3,aT,seval];done)),(by(simp only[g,O,a4,a5,aT,seval];done)),(by(simp only[z,R,S,T,aT,seval];done)),(by(simp only[A,U,V,X,aT,seval];done)),j,l,o,(by rfl),(by(simp only[aT,seval];done)),(by(simp only[a9,J,aT,seval];done)),(by(simp only[b0,aT,seval];done)),P,Q,J⟩
  simp only[e1,e4,cC,bT,RR,seval];refine aM fun o f=>?_;have d3:o≠C:=fun e=>by rw[e]at f;simp only[u,Y,RR,seval,reduceCtorEq]at f
  have a0:=d3.symm;have d4:o≠B:=fun e=>by rw[e]at f;simp only[t,a1,RR,seval,reduceCtorEq]at f
  have a3:=d4.symm;have d5:o≠v:=fun e=>by rw[e]at f;simp only[g,O,RR,seval,reduceCtorEq]at f
  have a5:=d5.symm;have d2:o≠y:=fun e=>by rw[e]at f;simp only[z,R,RR,seval,reduceCtorEq]at f
  have T:=d2.symm;have Q:o≠p:=fun e=>by rw[e]at f;simp only[A,U,RR,seval,reduceCtorEq]at f
  have X:=Q.symm;have b0:o≠j:=fun e=>by rw[e]at f;simp only[RR,seval,reduceCtorEq]at f
  have b5:=b0.symm;simp only[RR,seval];refine hI [(3,1),(13,3),(15,1)] hd (m:=0) rfl (by kernel_rfl) rfl rfl ?_;simp only[dR,rO,RR,seval];refine aM fun l d=>?_;have c9:l≠C:=fun e=>by rw[e]at d;simp only[u,Y,a0,RR,seval,reduceCtorEq]at d
  have Z:=c9.symm;have d0:l≠B:=fun e=>by rw[e]at d;simp only[t,a1,a3,RR,seval,reduceCtorEq]at d
  have a2:=d0.symm;have d1:l≠v:=fun e=>by rw[e]at d;simp only[g,O,a5,RR,seval,reduceCtorEq]at d
  have a4:=d1.symm;have c8:l≠y:=fun e=>by rw[e]at d;simp only[z,R,T,RR,seval,reduceCtorEq]at d
  have S:=c8.symm;have P:l≠p:=fun e=>by rw[e]at d;simp only[A,U,X,RR,seval,reduceCtorEq]at d
  have V:=P.symm;have a9:l≠j:=fun e=>by rw[e]at d;simp only[b5,RR,seval,reduceCtorEq]at d
  have b3:=a9.symm;have J:l≠o:=fun e=>by rw[e]at d;simp only[RR,seval,reduceCtorEq]at d
  have b7:=J.symm;simp only[a7,a8,a6,b5,b3,bT,cQ,RR,seval];refine jG (by kernel_rfl) ?_;simp only[RR,seval];exact h2 _ _ ⟨(by repeat (first|exact aX.refl _ _|refine aX.upd rfl ?_)),(by(simp only[u,Y,a0,Z,aT,seval];done)),(by(simp only[t,a1,a3,a2,aT,seval];done)),(by(simp only[g,O,a5,a4,aT,seval];done)),(by(simp only[z,R,T,S,aT,seval];done)),(by(simp only[A,U,X,V,aT,seval];done)),j,l,o,(by rfl),(by(simp only[aT,seval];done)),(by(simp only[a9,aT,seval];done)),(by(simp only[b0,b7,aT,seval];done)),P,Q,J⟩
 rintro F4 M4 ⟨I,e0,e3,c0,h8,h9,j,l,o,b9,e8,i4,k2,P,Q,J⟩;simp only[iL];apply hK;have f3:=(I 3 rfl).trans f3;have N:=(I 8 rfl).trans N;have f9:=(I 9 rfl).trans f9;have u:=e0.trans u;have t:=e3.trans t;have g:=c0.trans g;have z:=h8.trans z;have A:=h9.trans A;clear I e0 e3 c0 h8 h9;have j1:jU W inp j p o (.osl 1 l 0) D2 0 M4:=⟨by rw[←hD];exact e8,by rw[←l8];exact A,NY,⟨List.replicate W.length 0,fJ,by rw[List.map_replicate];exact k2⟩, .inr ⟨l,rfl,i4⟩,fun s n e=>P (by cases e;rfl),fun s n e=>J (by cases e;rfl),Ne.symm Q,cJ _,⟨by decide,by decide⟩,⟨by decide,by decide⟩,WR,cJ _⟩;have h3:off (.osl 1 l 0) v:=fun s n e=>by cases e;rw[g]at i4;cases i4
 clear u t z A i4 k2;refine aI (aA fun K hK=>?_);simp only[RR,seval];refine hK _ _ (bM fun F5 M5 E hH=>?_);have g3:=E 3;have g8:=E 8;have g9:=E 9;have j8:=E 13;have h7:=E 14;have c0:=hH v;have j9:=hH j;simp only[f3,N,f9,b9,g,e8,RR,seval]at g3 g8 g9 j8 h7 c0 j9;have j1:jU W inp j p o (.osl 1 l 0) D2 0 M5:=j1.same hH;have f3:=g3;have N:=g8;have f9:=g9;have b9:=j8;have g:=c0;have e8:=j9;refine aP ?_;refine iV [3,8,9,13] (k+1) (fun q fr M=> ∃i vo,i≤k+1∧q=k+1 -i∧fr 14= .int .i64 (i:Nat)∧jU W inp j p o vo (G i) (en i) M∧M v=some (.rows 22 [[.int .i64 0, .int .u32 0, .int .u32 0, .int .u32 0, .int .u32 0, .int .u32 0, .int .u32 0, .int .u32 0, .int .u32 0, .int .u32 0, .int .u32 0, .int .u32 0, .int .u32 0, .int .u32 0, .int .u32 0, .int .u32 0, .int .u32 0, .nsl, .int .i64 0, .str [], .int .i64 0, .int .i64 0]])∧off vo v) ⟨0, .osl 1 l 0,cJ _,rfl,h7,(by rw[h0,(hs 0 (cJ _)).1];exact j1),g,h3⟩ ?_;rintro q F6 M6 ⟨i,vo,hi,hq,h7,hM,g,h3⟩ I K0 l1;have f3:=(I 3 rfl).trans f3;have N:=(I 8 rfl).trans N;have f9:=(I 9 rfl).trans f9;have b9:=(I 13 rfl).trans b9;have l0:=aX.refl [3,8,9,13] F6;clear I;have hz:decide ((i:Int)<fu)=true:=cD (by omega);have e8:=hM.r;have m1:IntKind.wrap .i64 ((i:Int)+1)=((i+1:Nat):Int):=by rw[aS _ (by omega)];omega
 refine aI (aA fun K hK=>?_);simp only[f3,b9,h7,e8,bT,hz,RR,seval];refine hK _ _ (aU ?_ ?_)<;>intro hc
 ·have j3:=hc;clear hc
  have i0:en i=0:=aB j3
  have j2:i≤k:=by
   rcases pR i (k+1)with h|h
   ·omega
   have :i=k+1:=by omega
   rw[this]at i0;exact absurd i0 he
  obtain⟨_,m0,l9⟩:=hs i j2;rw[i0]at hM;have i1:v≠j:=fun e=>by have h1:=hM.r;rw[←e,g]at h1;cases h1
  have j4:v≠p:=fun e=>by have h1:=hM.m;rw[←e,g]at h1;cases h1
  have m2:v≠o:=fun e=>by obtain⟨cn,_,h1⟩:=hM.c;rw[←e,g]at h1;cases h1
  refine aK ?_;simp only[RR];refine aI (aP (aG ?_));simp only[b9,cQ,RR,seval];refine jT (AB hM k0 k7 m0 l5 l9) (fun _=>trivial) fun ae H2 ⟨g1,m6,l3,l7⟩=>?_;subst g1;obtain⟨g,h3⟩:=l7 v _ g i1 j4 m2 h3;simp only[RR,seval];refine aG ?_;simp only[h7,m1,RR,seval];refine l1 (k+1 -(i+1)) _ _ (by omega) ⟨i+1,m6,by omega,rfl,by rfl,l3,g,h3⟩ (by repeat (first|exact l0|refine aX.upd rfl ?_))
 have j3:=hc;have i0:en i≠0:=aD j3
 have j2:i=k+1:=by
  rcases pR i (k+1)with h|h
  ·exact absurd (hs i (by omega)).1 i0
  omega
 subst j2;have i1:v≠j:=fun e=>by have h1:=hM.r;rw[←e,g]at h1;cases h1
 have j4:v≠p:=fun e=>by have h1:=hM.m;rw[←e,g]at h1;cases h1
 have O:=i1;have c3:=i1.symm;refine cF ?_;simp only[RR,seval];refine hM.seal fun FT HT k5 e8 l6=>?_;have N:FT 8= .ptr 22 v 0 0:=(k5 8 (by simp only[aT,N,seval];rfl)).trans (by simp only[aT,N,seval]);have b9:FT 13= .ptr 28 j 0 0:=(k5 13 (by simp only[aT,b9,seval];rfl)).trans (by simp only[aT,b9,seval]);have g:=l6 v _ _ i1 j4 h3 (fun r hr x hx=>by simp only[bD]at hr;subst hr;simp only[bP,bO,dF]at hx;rcases hx with rfl|rfl|rfl|rfl|rfl|rfl|rfl|rfl|rfl|rfl|rfl|rfl|rfl|rfl|rfl|rfl|rfl|rfl|rfl|rfl|rfl|rfl<;>rfl) g;have l4:=Av (G (k+1)).out;refine aA fun K hK=>?_;simp only[b9,e8,bT,cQ,l4,RR,seval];refine hK _ _ (aC fun K hK=>?_);refine fQ (fun fr M=>fr 8= .ptr 22 v 0 0∧fr 9= .osl 1 o W.length∧M v=some (.rows 22 [[.int .i64 (G (k+1)).pc, .int .u32 0, .int .u32 (G (k+1)).r1, .int .u32 (G (k+1)).r2, .int .u32 0, .int .u32 0, .int .u32 0, .int .u32 0, .int .u32 0, .int .u32 0, .int .u32 0, .int .u32 0, .int .u32 0, .int .u32 0, .int .u32 0, .int .u32 0, .int .u32 0, .isl 1 ((G (k+1)).mem.map gL), .int .i64 (G (k+1)).rd, .str (G (k+1)).out, .int .i64 (G (k+1)).st, .int .i64 (en (k+1))]])) (fun m9 l2=>?_) ?_
 ·refine lK (fun x=>x≠j) eF (by kernel_rfl) fun hd=>?_
  refine hI [(0,3),(1,1),(2,3),(3,0),(4,1),(5,3)] hd (m:=0) rfl (by kernel_rfl) rfl rfl ?_;simp only[dR,fX,N,b9,g,O,bT,cQ,RR,seval];refine jG (by kernel_rfl) ?_;simp only[RR,seval];refine l2 _ _ ⟨?_, ?_, ?_⟩<;>first|rfl|(simp only[N,aT,seval];done)
 rintro F7 M7 ⟨N,f9,g⟩;simp only[iL];apply hK;refine aN ?_;simp only[aW,aJ,bN,N,f9,g,bT,RR,seval];exact aY.run ⟨_,rfl⟩
theorem uH {q f:Mc} {a x e:Int} (h:q.set a x=some (e,f)):f.st=q.st+1:=by
 unfold Mc.set at h;by_cases c:a=1
 ·rw[bH c]at h
  have b:=(Prod.mk.inj (Option.some.inj h)).2;rw[←b];rfl
 rw[aL c]at h;by_cases d:a=2
 ·rw[bH d]at h
  have b:=(Prod.mk.inj (Option.some.inj h)).2;rw[←b];rfl
 rw[aL d]at h;cases h
theorem TR {inp:dC} {o a b c:Int} {s s':Mc} {e:Int} (h:tX inp o a b c s=some (e,s')):s'.st≤s.st+1:=by
 unfold tX at h;by_cases g:o=1
 ·rw[bH g]at h
  exact pT (uH h)
 rw[aL g]at h;by_cases k:o=2
 ·rw[bH k]at h
  exact pT (uH h)
 rw[aL k]at h;by_cases l:o=3
 ·rw[bH l]at h
  exact pT (uH h)
 rw[aL l]at h;by_cases n:4≤o∧o≤15
 ·rw[bH n]at h
  by_cases d:(eR o (s.r b) (s.r c)).2=0
  ·rw[bH d]at h;exact pT (uH h)
  rw[aL d]at h;exact(by have f:=(Prod.mk.inj (Option.some.inj h)).2;rw[←f];exact bI _)
 rw[aL n]at h;by_cases p:o=16
 ·rw[bH p]at h
  cases hm:s.mem[(gS (s.r b+c)).toNat]? with
  |none=>rw[hm]at h;cases h
  |some x=>rw[hm]at h;exact pT (uH h)
 rw[aL p]at h;by_cases t:o=17
 ·rw[bH t]at h
  by_cases d:(gS (s.r b+c)).toNat<s.mem.length
  ·rw[bH d]at h;exact(by have f:=(Prod.mk.inj (Option.some.inj h)).2;rw[←f];exact bI _)
  rw[aL d]at h;cases h
 rw[aL t]at h;by_cases u:o=19
 ·rw[bH u]at h
  have f:=(Prod.mk.inj (Option.some.inj h)).2;rw[←f];split<;>exact bI _
 rw[aL u]at h;by_cases v:o=22
 ·rw[bH v]at h
  exact(by have f:=(Prod.mk.inj (Option.some.inj h)).2;rw[←f];exact bI _)
 rw[aL v]at h;by_cases y:o=23
 ·rw[bH y]at h
  cases hm:inp[s.rd]? with
  |none=>rw[hm]at h;exact pT (uH h)
  |some x=>
   rw[hm]at h;change ({s with rd:=s.rd+1}:Mc).set a (x.toNat:Int)=_ at h;have f:=uH h;exact pT f
 rw[aL y]at h;by_cases XX:o=24
 ·rw[bH XX]at h
  by_cases d:65536≤s.out.length
  ·rw[bH d]at h;exact(by have f:=(Prod.mk.inj (Option.some.inj h)).2;rw[←f];exact bI _)
  rw[aL d]at h;exact(by have f:=(Prod.mk.inj (Option.some.inj h)).2;rw[←f];exact bI _)
 rw[aL XX]at h;by_cases i:o=25
 ·rw[bH i]at h
  by_cases d:s.r a<c
  ·rw[bH d]at h;exact(by have f:=(Prod.mk.inj (Option.some.inj h)).2;rw[←f];exact bI _)
  rw[aL d]at h;exact(by have f:=(Prod.mk.inj (Option.some.inj h)).2;rw[←f];exact bI _)
 rw[aL i]at h;by_cases j:o=26
 ·rw[bH j]at h
  exact(by have f:=(Prod.mk.inj (Option.some.inj h)).2;rw[←f];exact bI _)
 rw[aL j]at h;cases h
theorem JJ {W:List Int} {inp:dC} {s s':Mc} {e:Int} (h:mX W inp s=some (e,s')):s'.st≤s.st+1:=by
 unfold mX at h;split at h
 ·cases h
 split at h
 ·exact TR h
 cases h
theorem NE {W:List Int} {inp:dC} {k:Nat} {e:Int} {s':Mc} (h:Fin W inp k D2 e s'): ∃(G:Nat→Mc) (b:Nat→Int),G 0=D2∧G (k+1)=s'∧b (k+1)=e∧ ∀i,i≤k→b i=0∧(G i).st≤i∧mX W inp (G i)=some (b (i+1),G (i+1)):=by
 obtain⟨o,j,l⟩:=h;obtain⟨g,c,f,d⟩:=j.trace
 have n: ∀i,i≤k→(g i).st≤i:=fun i=>by
  induction i with
  |zero=>intro _;rw[c];exact bI _
  |succ i ih=>
   intro a;have:=JJ (d i (by omega));have:=ih (by omega);omega
 refine⟨fun i=>if i≤k then g i else s',fun i=>if i≤k then 0 else e, ?_, ?_, ?_,fun i a=>⟨bH a, ?_, ?_⟩⟩
 ·show(if 0≤k then g 0 else s')=D2
  rw[bH (cJ _),c]
 ·exact aL (by omega)
 ·exact aL (by omega)
 ·show(if i≤k then g i else s').st≤_
  rw[bH a];exact n i a
 show mX W inp (if i≤k then g i else s')=some ((if i+1≤k then 0 else e),(if i+1≤k then g (i+1)else s'));rw[bH a];by_cases h:i+1≤k
 ·rw[bH h,bH h];exact d i (by omega)
 have :i=k:=by omega
 subst this;rw[aL h,aL h,f];exact l
theorem UY (W:List Int) (inp:dC) (D:Nat) (p:Int) (k:Nat) (e:Int) (s:Mc) (O:D=4224) (P:W.length≤20000) (X: ∀w∈W,dX w∧sM w) (T:inp.length≤2000000)
  (R:Fin W inp k D2 e s) (Q:e≠0) (U:k≤1000000000000) (S:(k:Int)+2≤p):
  eN dV 40 [.agg [.isl 1 (W.map gL), .int .i64 (D:Int)], .str inp, .agg [.int .i64 0, .int .u32 0, .int .u32 0, .int .u32 0, .int .u32 0, .int .u32 0, .int .u32 0, .int .u32 0, .int .u32 0, .int .u32 0, .int .u32 0, .int .u32 0, .int .u32 0, .int .u32 0, .int .u32 0, .int .u32 0, .int .u32 0, .isl 1 (List.replicate D [.int .u32 0]), .int .i64 0, .str [], .int .i64 0, .int .i64 0], .int .i64 p] (.agg (R2 s (.isl 1 (s.mem.map gL)) e)):=by
 obtain⟨G,L,N,V,H,A⟩:=NE R;have u:=NG W inp D p G L k O P X T N (fun i x=>⟨(A i x).1,by have:=(A i x).2.1;omega,(A i x).2.2⟩) (by rw[H];exact Q) U S;rw[V,H]at u;unfold R2 at u⊢;refine bX 20 [.cell 8 93] func40 ?_;refine aA fun K a=>?_;simp only[RR,seval];refine aM fun g a7=>?_;simp only[RR,seval];refine aM fun j I=>?_;have Z:j≠g:=fun e=>by rw[e]at I;simp only[RR,seval,reduceCtorEq]at I
 have J:=Z.symm;simp only[RR,seval];refine aM fun l n=>?_;have a1:l≠g:=fun e=>by rw[e]at n;simp only[J,RR,seval,reduceCtorEq]at n
 have Y:=a1.symm;have a2:l≠j:=fun e=>by rw[e]at n;simp only[RR,seval,reduceCtorEq]at n
 have a0:=a2.symm;simp only[RR,seval];refine a _ _ (bM fun F1 M1 f t=>?_);have B:=f 1;have C:=f 3;have E:=f 4;have F:=f 6;have o:=f 8;have b:=t g;have c:=t j;have d:=t l;simp only[J,Y,a0,RR,seval]at B C E F o b c d;refine aA fun K a=>?_;simp only[B,C,E,F,b,c,RR,seval];refine LO u (fun v e=>by obtain⟨_,h⟩:=e;cases h) fun v M ⟨vc,e⟩ y=>?_;cases e;have b:=y g _ b;have c:=y j _ c;have d:=y l _ d;simp only[RR,seval];refine aM fun b9 z=>?_;have a4:=cY z b;have a8:=a4.symm;have a5:=cY z c;have a9:=a5.symm;have a6:=cY z d;have a3:=a6.symm;simp only[RR,seval];refine a _ _ (aA fun K a=>?_);simp only[o,d,a3,RR,seval];apply a;refine aN ?_;simp only[aW,aJ,bN,o,RR,seval];refine aY.pure ?_;rfl
theorem CV (W:List Int) (inp:dC) (D:Nat) (y:Int) (k:Nat) (e:Int) (s:Mc) (R:D=4224) (S:W.length≤20000) (Y: ∀w∈W,dX w∧sM w) (V:inp.length≤2000000)
  (T:Fin W inp k D2 e s) (O:e≠0) (X:k≤1000000000000) (U:(k:Int)+2≤y):
  eN dV 19 [.agg [.isl 1 (W.map gL), .int .i64 (D:Int)], .str inp, .int .i64 y] (.agg [.int .i64 e, .str s.out, .int .i64 s.st]):=by
 have N:=CU W D (by omega);have t:=UY W inp D y k e s R S Y V T O X U;have Z:decide (e=0)=false:=bA O;unfold R2 at t;refine bX 25 [.cell 6 40] func19 ?_;refine aA fun K g=>?_;simp only[RR,seval];refine aM fun l a3=>?_;simp only[RR,seval];refine aM fun n P=>?_;have a1:n≠l:=fun e=>by rw[e]at P;simp only[RR,seval,reduceCtorEq]at P
 have a0:=a1.symm;simp only[RR,seval];refine g _ _ (bM fun Q A v L=>?_);have C:=v 1;have E:=v 2;have F:=v 3;have o:=v 6;have c:=L l;have a:=L n;simp only[a0,RR,seval]at C E F o c a;refine aC fun K g=>?_;refine fQ (fun H M=>aX [6] Q H∧M l=A l∧M n=A n∧ ∃b,H 7= .ptr 22 b 0 0∧M b=some (.rows 22 [[.int .i64 s.pc, .int .u32 0, .int .u32 s.r1, .int .u32 s.r2, .int .u32 0, .int .u32 0, .int .u32 0, .int .u32 0, .int .u32 0, .int .u32 0, .int .u32 0, .int .u32 0, .int .u32 0, .int .u32 0, .int .u32 0, .int .u32 0, .int .u32 0, .isl 1 (s.mem.map gL), .int .i64 s.rd, .str s.out, .int .i64 s.st, .int .i64 e]])) (fun a2 z=>?_) ?_
 ·refine lK (fun x=>x≠l) eF (by kernel_rfl) fun hd=>?_
  refine hI [(0,0),(1,3),(2,0),(4,3)] hd (m:=4) rfl (by kernel_rfl) rfl rfl ?_;simp only[dR,fX,C,E,F,c,RR,seval];refine lB hd (by kernel_rfl:Region.ready .any _ _=[3,6]) (by simp) ⟨?_, ?_,trivial⟩
  ·simp only[RR,seval]
   refine aO (N) ?_;simp only[RR,seval];refine lB hd (by kernel_rfl:Region.ready .any _ _=[5,6]) (by simp) ⟨?_, ?_,trivial⟩
   ·simp only[RR,seval]
    refine aO (t) ?_;simp only[RR,seval];refine hI [(6,1),(7,1)] hd (m:=0) rfl (by kernel_rfl) rfl rfl ?_;simp only[dR,RR,seval];refine aM fun b d=>?_;have f:=cY d c;have p:=f.symm;have i:=cY d a;have j:=i.symm;simp only[f,RR,seval];refine jG (by kernel_rfl) ?_;simp only[RR,seval];exact z _ _ ⟨(by repeat (first|exact aX.refl _ _|refine aX.upd rfl ?_)),(by(simp only[c,p,aT,seval];done)),(by(simp only[a,j,aT,seval];done)),b,(by rfl),(by(simp only[aT,seval];done))⟩
   simp only[RR,seval];refine aM fun b d=>?_;have f:=cY d c;have p:=f.symm;have i:=cY d a;have j:=i.symm;simp only[RR,seval];refine hI [(5,1),(7,1)] hd (m:=0) rfl (by kernel_rfl) rfl rfl ?_;simp only[dR,RR,seval];refine aO (t) ?_;simp only[f,RR,seval];refine jG (by kernel_rfl) ?_;simp only[RR,seval];exact z _ _ ⟨(by repeat (first|exact aX.refl _ _|refine aX.upd rfl ?_)),(by(simp only[c,p,aT,seval];done)),(by(simp only[a,j,aT,seval];done)),b,(by rfl),(by(simp only[aT,seval];done))⟩
  simp only[RR,seval];refine aM fun b d=>?_;have f:=cY d c;have p:=f.symm;have i:=cY d a;have j:=i.symm;simp only[RR,seval];refine hI [(3,1),(5,1),(7,1)] hd (m:=0) rfl (by kernel_rfl) rfl rfl ?_;simp only[dR,RR,seval];refine aO (N) ?_;simp only[RR,seval];refine aO (t) ?_;simp only[f,RR,seval];refine jG (by kernel_rfl) ?_;simp only[RR,seval];exact z _ _ ⟨(by repeat (first|exact aX.refl _ _|refine aX.upd rfl ?_)),(by(simp only[c,p,aT,seval];done)),(by(simp only[a,j,aT,seval];done)),b,(by rfl),(by(simp only[aT,seval];done))⟩
 rintro F2 M2 ⟨B,I,J,b,G,u⟩;simp only[iL];apply g;have o:=(B 6 rfl).trans o;have c:=I.trans c;have a:=J.trans a;clear B I J;have i:b≠n:=fun e=>by rw[e,a]at u;cases u
 have j:=i.symm;refine aI (aA fun K g=>?_);simp only[G,u,Z,RR,seval];refine g _ _ (bL ?_);refine aK ?_;simp only[RR];refine aA fun K g=>?_;simp only[o,G,a,u,RR,seval];apply g;refine aN ?_;simp only[aW,aJ,bN,o,RR,seval];refine aY.pure ?_;rfl
theorem X8 (s:dC) (n:Nat) (N:n≤1000000) (b a c d:UInt8) (I:s[n]?=some b) (J:s[n+1]?=some a) (L:s[n+2]?=some c) (M:s[n+3]?=some d):
  eN dV 47 [.str s, .int .i64 (n:Int)] (.int .u32 ((b.toNat:Int)+256 *(a.toNat:Int)+65536 *(c.toNat:Int)+16777216 *(d.toNat:Int))):=by
 have O:=b.toNat_lt;have P:=a.toNat_lt;have Q:=c.toNat_lt;have R:=d.toNat_lt;have j:(0:Int)≤(n:Int):=by omega
 have k:IntKind.wrap .i64 ((n:Int)+1)=((n+1:Nat):Int):=by rw[aS _ (by omega)];omega
 have l:IntKind.wrap .i64 ((n:Int)+2)=((n+2:Nat):Int):=by rw[aS _ (by omega)];omega
 have o:IntKind.wrap .i64 ((n:Int)+3)=((n+3:Nat):Int):=by rw[aS _ (by omega)];omega
 have B:(0:Int)≤((n+1:Nat):Int):=by omega
 have C:(0:Int)≤((n+2:Nat):Int):=by omega
 have D:(0:Int)≤((n+3:Nat):Int):=by omega
 have E:((n:Int)).toNat=n:=cC n;have F:(((n+1:Nat):Int)).toNat=n+1:=cC _;have G:(((n+2:Nat):Int)).toNat=n+2:=cC _;have H:(((n+3:Nat):Int)).toNat=n+3:=cC _;have v:IntKind.wrap .u32 (b.toNat:Int)=(b.toNat:Int):=eH _ (by omega);have y:IntKind.wrap .u32 (a.toNat:Int)=(a.toNat:Int):=eH _ (by omega);have z:IntKind.wrap .u32 (c.toNat:Int)=(c.toNat:Int):=eH _ (by omega);have A:IntKind.wrap .u32 (d.toNat:Int)=(d.toNat:Int):=eH _ (by omega);have f:IntKind.wrap .u32 (256 *(a.toNat:Int))=256 *(a.toNat:Int):=eH _ (by omega);have g:IntKind.wrap .u32 (65536 *(c.toNat:Int))=65536 *(c.toNat:Int):=eH _ (by omega);have i:IntKind.wrap .u32 (16777216 *(d.toNat:Int))=16777216 *(d.toNat:Int):=eH _ (by omega);have p:IntKind.wrap .u32 ((b.toNat:Int)+256 *(a.toNat:Int))=(b.toNat:Int)+256 *(a.toNat:Int):=eH _ (by omega);have t:IntKind.wrap .u32 ((b.toNat:Int)+256 *(a.toNat:Int)+65536 *(c.toNat:Int))=(b.toNat:Int)+256 *(a.toNat:Int)+65536 *(c.toNat:Int):=eH _ (by omega);have u:IntKind.wrap .u32 ((b.toNat:Int)+256 *(a.toNat:Int)+65536 *(c.toNat:Int)+16777216 *(d.toNat:Int))=(b.toNat:Int)+256 *(a.toNat:Int)+65536 *(c.toNat:Int)+16777216 *(d.toNat:Int):=eH _ (by omega);refine bX 30 [.tmp 4] func47 ?_;refine aA fun K e=>?_;simp only[RR,seval];refine e _ _ (aC fun K e=>?_);refine bB (fun x=>True) [(0,3),(1,3),(2,3),(3,3),(4,3),(5,3),(6,3),(7,3),(8,3),(9,3),(10,3),(11,3),(12,3),(13,3),(14,3),(15,3),(16,3),(17,3),(18,3),(19,3),(20,3),(21,3),(22,3),(23,3),(24,3),(25,3)] [] eF (by kernel_rfl) rfl rfl ?_;simp only[*,dR,j,k,l,o,B,C,D,v,y,z,A,f,g,i,p,t,u,RR,seval];apply e;refine aN ?_;simp only[aW,aJ,bN,RR,seval];refine aY.pure ?_;rfl
theorem By {L:List Int} {i:Nat} {x:Int} (h:L[i]?=some x) (a:dX x) (b:i≤100000):eN dV 47 [.str (vI L), .int .i64 ((4 *i:Nat):Int)] (.int .u32 x):=by
 have:=X8 (vI L) (4 *i) (by omega) _ _ _ _ (qT h 0 (by decide)) (qT h 1 (by decide)) (qT h 2 (by decide)) (qT h 3 (by decide));rw[Rk,Rk,Rk,Rk]at this
 have e:x % 256+256 *(x/256 % 256)+65536 *(x/65536 % 256)+16777216 *(x/16777216 % 256)=x:=by
  have:=a.1;have:=a.2;omega
 rwa [e]at this
theorem MF (W:List Int) (hW:W.length≤16384) (c5: ∀w∈W,dX w):eN dV 23 [.str (vI ([1145390419,(W.length:Int),4224]++W))] (.tup [.agg [.isl 1 (W.map gL), .int .i64 4224], .int .i64 0]):=by
 have c2:eN dV 47 [.str (vI ([1145390419,(W.length:Int),4224]++W)), .int .i64 4] (.int .u32 (W.length:Int)):=By (i:=1) rfl ⟨by omega,by omega⟩ (by decide);have c3:eN dV 47 [.str (vI ([1145390419,(W.length:Int),4224]++W)), .int .i64 8] (.int .u32 4224):=By (i:=2) rfl ⟨by decide,by decide⟩ (by decide)
 have c4: ∀{k:Nat} {x:Int},W[k]?=some x→eN dV 47 [.str (vI ([1145390419,(W.length:Int),4224]++W)), .int .i64 ((12+4 *k:Nat):Int)] (.int .u32 x):=fun {k x} h=>by
  have hk:=(bF.1 h).1;have:=By (L:=[1145390419,(W.length:Int),4224]++W) (i:=3+k) (x:=x) (by rw[jA (by show 3≤3+k;omega),show 3+k-[1145390419,(W.length:Int),4224].length=k by show 3+k- 3=k;omega];exact h) (c5 x (aZ h)) (by omega);rwa [show 4 *(3+k)=12+4 *k by omega]at this
 have a8:(vI ([1145390419,(W.length:Int),4224]++W))[0]?=some 83:=qT (i:=0) (x:=1145390419) rfl 0 (by decide);have a9:(vI ([1145390419,(W.length:Int),4224]++W))[1]?=some 69:=qT (i:=0) (x:=1145390419) rfl 1 (by decide);have b0:(vI ([1145390419,(W.length:Int),4224]++W))[2]?=some 69:=qT (i:=0) (x:=1145390419) rfl 2 (by decide);have b1:(vI ([1145390419,(W.length:Int),4224]++W))[3]?=some 68:=qT (i:=0) (x:=1145390419) rfl 3 (by decide);have d7:(vI ([1145390419,(W.length:Int),4224]++W)).length=12+4 *W.length:=by rw[He,aH];simp only[aQ,aV];omega
 generalize vI ([1145390419,(W.length:Int),4224]++W)=s at *;have d0:decide ((s.length:Int)<12)=false:=bA (by omega);have d1:decide ((16384:Int)<(W.length:Int))=false:=bA (by omega);have X:IntKind.wrap .i64 (W.length:Int)=(W.length:Int):=aS _ (by omega);have d3:IntKind.wrap .i64 (4 *(W.length:Int))=4 *(W.length:Int):=aS _ (by omega);have d4:IntKind.wrap .i64 (12+4 *(W.length:Int))=12+4 *(W.length:Int):=aS _ (by omega);have d5:decide ((s.length:Int)=12+4 *(W.length:Int))=true:=cD (by omega);have d6:IntKind.wrap .i64 4224=4224:=rfl;have y0:(((83:UInt8).toNat:Nat):Int)=83:=rfl;have y1:(((69:UInt8).toNat:Nat):Int)=69:=rfl;have y2:(((68:UInt8).toNat:Nat):Int)=68:=rfl;refine bX 72 [.cell 2 36, .tmp 3] func23 ?_;refine aA fun K g=>?_;simp only[RR,seval];refine aM fun t d8=>?_;simp only[RR,seval];refine g _ _ (aI (aA fun K g=>?_));simp only[d0,a8,a9,b0,b1,RR,seval];refine g _ _ (bL ?_);refine aK ?_;simp only[RR];refine aA fun K g=>?_;simp only[RR,seval];refine aO (c2) ?_;simp only[RR,seval];refine g _ _ (aA fun K g=>?_);simp only[RR,seval];refine aO (c3) ?_;simp only[RR,seval];refine g _ _ (aI (aA fun K g=>?_));simp only[d1,X,d3,d4,d5,RR,seval];refine g _ _ (bL ?_);refine aK ?_;simp only[RR];refine aA fun K g=>?_;simp only[d6,RR,seval];refine aM fun u a2=>?_;have a5:u≠t:=fun e=>by rw[e]at a2;simp only[RR,seval,reduceCtorEq]at a2
 have S:=a5.symm;simp only[RR,seval];refine g _ _ (aI (aA fun K g=>?_));simp only[RR,seval];refine g _ _ (bM fun F1 M1 a j=>?_);have B:=a 0;have o:=a 2;have A:=a 3;have C:=a 4;have l:=a 6;have z:=a 7;have f:=j t;have d:=j u;simp only[S,RR,seval]at B o A C l z f d;refine aP (eO [0,2,3,4,6] (W.length) (fun k fr M=>fr 7= .int .i64 (k:Nat)∧M t=M1 t∧ ∃v,eB 1 v ((W.take k).map gL) M∧off v u∧M u=some (.rows 2 [[v, .int .i64 4224]])) ⟨z,rfl, .nsl, .inl ⟨rfl,rfl⟩,(fun s n e=>by cases e),d⟩ ?_);rintro k T M2 c8 ⟨Y,p,v,y,V,d⟩ J K0 a7;have B:=(J 0 rfl).trans B;have o:=(J 2 rfl).trans o;have A:=(J 3 rfl).trans A;have C:=(J 4 rfl).trans C;have l:=(J 6 rfl).trans l;have z:=Y;clear Y;have f:=p.trans f;have N:=aX.refl [0,2,3,4,6] T;have G:=p;clear J;refine aI (aA fun K g=>?_);simp only[C,z,X,RR,seval];refine g _ _ (aU ?_ ?_)<;>intro U
 ·have a1:k<W.length:=by have:=aB U;omega
  clear U;obtain⟨wd,a4⟩: ∃x,W[k]?=some x:=⟨_,aF a1⟩;have b7:=c4 a4;have e1:IntKind.wrap .i64 (4 *(k:Int))=4 *(k:Int):=aS _ (by omega);have e2:IntKind.wrap .i64 (12+4 *(k:Int))=((12+4 *k:Nat):Int):=by rw[aS _ (by omega)];omega
  have c1:(W.take (k+1)).map gL=(W.take k).map gL++[[.int .u32 wd]]:=by rw[List.take_add_one,a4,cO];rfl
  have c9:((W.take k).map gL).length=k:=by simp;omega
  refine aK ?_;simp only[RR];refine aI (aP (bM fun F3 M3 a j=>?_));have O:=a 0;have D:=a 2;have E:=a 3;have P:=a 4;have F:=a 6;have Q:=a 7;have p:=j t;have H:=j u;simp only[B,o,A,C,l,z,f,d,RR,seval]at O D E P F Q p H;have N:aX [0,2,3,4,6] T F3:=aX.same a (by repeat (first|exact N|refine aX.upd rfl ?_));have G:=(j t).trans G;have y:=y.same j;have B:=O;have o:=D;have A:=E;have C:=P;have l:=F;have z:=Q;have f:=p;have d:=H;refine bB (fun x=>x≠u∧x≠t) [(0,3),(1,0),(2,3),(3,3),(4,3),(5,3),(6,1),(7,2),(8,1),(9,3)] [(10,1)] eF (by kernel_rfl) rfl rfl ?_;simp only[dR,fX,B,l,z,d,a5,e1,e2,RR,seval];refine aO (b7) ?_;simp only[RR,seval];refine iW y (by simp only[aE,aQ,aV];(simp only[dU];omega)) (fun b e=>by(repeat' apply And.intro)<;>(intro c;subst c;first|exact V _ _ e|exact y.nb' f (by decide) e)) fun c6 M4 R a0 b8=>?_;have a3:=b8 u V (by rw[d];exact bY _);simp only[l,RR,seval];have p:=a0 t _ f (by exact(y).nb' f (by decide));have G:=(p.trans f.symm).trans G;have f:=p;have H:=a0 u _ d (by exact(y).nb' d (by decide));have d:=H;have b5:=R.cells;have c0:=R.one1;simp only[b5,c0,cA,List.drop,d,RR,seval];refine bM fun F5 M5 a j=>?_;have O:=a 0;have D:=a 2;have E:=a 3;have P:=a 4;have F:=a 6;have Q:=a 7;have p:=j t;have d:=j u;simp only[B,o,A,C,l,z,f,S,RR,seval]at O D E P F Q p d;have N:aX [0,2,3,4,6] T F5:=aX.same a (by repeat (first|exact N|refine aX.upd rfl ?_));have G:=(j t).trans (by(simp only[S,aT,seval];exact G));have R:=(R.off a3 _).same j;have B:=O;have o:=D;have A:=E;have C:=P;have l:=F;have z:=Q;have f:=p;refine aG ?_;simp only[z,RR,seval];rw[aS _ (by omega)];refine a7 _ _ a1 ⟨by rfl,G,c6,(by rw[c1];exact R),a3,d⟩ (by repeat (first|exact N|refine aX.upd rfl ?_))
 have b9:k=W.length:=by have:=aD U;omega
 rw[b9,dD]at y;refine cF ?_;simp only[RR,seval];refine bM fun F6 M6 a j=>?_;have D:=a 2;have E:=a 3;have F:=a 6;have p:=j t;have H:=j u;simp only[o,A,l,f,d,RR,seval]at D E F p H;have y:=y.same j;have o:=D;have A:=E;have l:=F;have f:=p;have d:=H;have h0:M6 u=some (.rows 2 [[]++v::[.int .i64 4224]]):=d;refine iF y h0 (fun x I=>by cases I) (fun x I=>by simp only[bD]at I;subst I;exact bS rfl) V fun c7 a6 Z b3 b4=>?_;have o:=(Z 2 (by rw[o];exact bS rfl)).trans o;have l:=(Z 6 (by rw[l];exact bS rfl)).trans l;have f:=b4 t _ _ S (y.offsz f (by decide)) (fun r hr x I=>by simp only[bD]at hr;subst hr;simp only[bP,bO,dF]at I;rcases I with rfl|rfl<;>exact bS rfl) f;have d:a6 u=some (.rows 2 [[.isl 1 (W.map gL), .int .i64 4224]]):=b3;refine aA fun K g=>?_;simp only[o,l,f,d,RR,seval];apply g;refine aN ?_;simp only[aW,aJ,bN,o,RR,seval];refine aY.pure ?_;rfl
theorem mT {q:Nat} {c:Int} {z:Zs} (h: ∀w∈vT (q:Int) c z,RQ w):Kw q z [c]:=by
 unfold Kw;rw[eL];exact h
theorem UW (q:Nat) (z:Zs):Kw q z []:=fun w a=>by cases a
theorem XE (n:Nat): ∀(q d:Nat),d≤200→n<4294967296→Kw q (zl d 0) (jQ (Lib.decDigits n)):=by
 induction n using Nat.strongRecOn with
 |_ n ih=>
  intro q d hd f
  have one: ∀k:Nat,k<10→jQ [UInt8.ofNat (48+k)]=[((48+k:Nat):Int)]:=fun k e=>by
   simp only[jQ,cN,dO];rw[UInt8.toNat_ofNat',Nat.mod_eq_of_lt (by omega)]
  rw[Lib.decDigits];split
  ·rename_i h
   have z:=Q4 (q:=(q:Int)) (c:=((48+n:Nat):Int)) (d:=(d:Int)) (s:=1880096768) (m:=0) (by omega) (by omega) (by omega);rw[one n h];refine mT ?_;rw[z.1];exact lX (by omega) (by omega) (pC (by decide) (by decide) (by decide))
  rename_i h;have a:n % 10<10:=sB _ (by decide);obtain⟨b,_⟩:=V9 (W:=[]) (n/10) q d (by omega) (by omega);have z:=Q4 (q:=((q+(jQ (Lib.decDigits (n/10))).length:Nat):Int)) (c:=((48+n % 10:Nat):Int)) (d:=(d:Int)) (s:=1880096768) (m:=((n/10:Nat):Int)) (by omega) (by omega) (by omega);rw[jD,one _ a];refine(ih (n/10) (by omega) q d hd (by omega)).app ?_;rw[b];refine mT ?_;rw[z.1];exact lX (by omega) (by omega) (pC (by decide) (by decide) (by decide))
section
variable {V : UInt8 → Prop} {A : Prop}
theorem UZ {i:Int} {e:Ex} (h:SX V A i e): ∀(q d:Nat),(d:Int)≤i→Kw q (zl d 0) (jQ (fR e)):=by
 induction h with
 |num i n hl h=>
  intro q d hd;have f:fR (.mk 1 0 n [] [])=Lib.decDigits n.toNat++[32]:=by simp [fR,mG,jY]
  have l:n.toNat<4294967296:=by have:=h.1;have:=h.2;omega
  obtain⟨t,_⟩:=V9 (W:=[]) n.toNat q d (by omega) l;rw[f,jD];refine(XE n.toNat q d (by omega) l).app ?_;rw[t];show Kw _ _ [32];refine mT ?_;rw[(DR (by omega) (by omega)).1];intro w j;simp only[bP,bO,dF]at j;rcases j with rfl|rfl|rfl|rfl<;>exact wB (by decide) (by decide) (by decide) (by omega)
 |var i c hl h hV=>
  intro q d hd;have f:fR (.mk 2 0 0 [c] [])=[c]:=by simp [fR,mG,jY]
  have k:97≤c.toNat∧c.toNat≤122:=by simp only[Ym,bC,bJ]at h;exact h
  rw[f];show Kw _ _ [(c.toNat:Int)];refine mT ?_;rw[(SI (by omega) (by omega)).1];exact lX (by omega) (by omega) (wB (by decide) (by decide) (by decide) (by omega))
 |idx i a hl hA ha ih=>
  intro q d hd;have f:fR (.mk 3 0 0 [116] [a])=fR a++[64]:=by rw[fR,rZ];simp [jY]
  rw[f,jD];refine(ih q d (by omega)).app ?_;rw[lO ha q d (by omega)];show Kw _ _ [64];refine mT ?_;rw[(SJ (by omega)).1];intro w j;simp only[bP,bO,dF]at j;rcases j with rfl|rfl|rfl|rfl<;>exact wB (by decide) (by decide) (by decide) (by omega)
 |get i hl=>
  intro q d hd;have f:fR (.mk 5 0 0 [] [])=[63]:=by simp [fR,mG,jY]
  rw[f];show Kw _ _ [63];refine mT ?_;rw[(pH (A:=1997537280) (X:=gF 23 1 0 0) (g:=3) (by decide) (by decide) (by decide) (by decide) (by decide) (by decide) (by omega) (by omega)).1];exact lX (by omega) (by omega) (pC (by decide) (by decide) (by decide))
 |neg i a hl ha ih=>
  intro q d hd;have f:fR (.mk 7 0 0 [] [a])=fR a++[33]:=by rw[fR,rZ];simp [jY]
  rw[f,jD];refine(ih q d (by omega)).app ?_;rw[lO ha q d (by omega)];show Kw _ _ [33];refine mT ?_;rw[(pH (A:=1326579712) (X:=gF 15 1 2 0) (g:=2) (by decide) (by decide) (by decide) (by decide) (by decide) (by decide) (by omega) (by omega)).1];exact lX (by omega) (by omega) (pC (by decide) (by decide) (by decide))
 |op i o a b hl h ha hb iha ihb=>
  intro q d hd;obtain⟨c,k,p⟩:=SG h;have f:fR (.mk 6 o 0 [] [a,b])=fR a++(fR b++[c]):=by rw[fR,Vy];simp [jY,k]
  rw[f,jD,jD];refine(iha q d (by omega)).app ?_;rw[lO ha q d (by omega)];refine(ihb _ (d+1) (by omega)).app ?_;rw[lO hb _ (d+1) (by omega)];show Kw _ _ [(c.toNat:Int)];refine mT ?_;rw[(p (by omega)).1];exact lX (by omega) (by omega) (TO h)
theorem XP {N:Nat}: ∀{l:List Sm} {q d:Nat},(∀m∈l, ∀q,q+(pX m).length≤N→Kw q (zl d 0) (yN q m)∧(iK (yN q m) q (zl d 0)).1=zl (d:Int) 0∧(yN q m).length=(pX m).length)→q+(jX l).length≤N→Kw q (zl d 0) (qD q l)
 |[],q,_,_,_=>UW q _
 |m::l,q,d,h,hq=>by
  rw[jX,aH]at hq;obtain⟨a,b,c⟩:=h m (fK) q (by omega);rw[qD];refine a.app ?_;rw[b,c];exact XP (fun x e=>h x (eZ _ e)) (by omega)
theorem ZG {N:Nat} (k:N≤3000) {i:Int} {m:Sm} (h:SS V A i m): ∀(q d:Nat),(d:Int)+1≤i→q+(pX m).length≤N→Kw q (zl d 0) (yN q m):=by
 induction h with
 |set i c e hl hc hV he=>
  intro q d hd b;have n:97≤c.toNat∧c.toNat≤122:=by simp only[Ym,bC,bJ]at hc;exact hc
  rw[AP];refine(UZ he q d (by omega)).app ?_;rw[lO he q d (by omega)];refine Kw.app (mT ?_) ?_
  ·rw[(Vn (by omega)).1]
   exact lX (by omega) (by omega) (pC (by decide) (by decide) (by decide))
  rw[eL 58,(Vn (by omega)).2];refine mT ?_;rw[(SE (by omega) (by omega)).1];exact lX (by omega) (by omega) (wB (by decide) (by decide) (by decide) (by omega))
 |store i a e hl hA ha he=>
  intro q d hd b;rw[AO];refine(UZ ha q d (by omega)).app ?_;rw[lO ha q d (by omega)];refine(UZ he _ (d+1) (by omega)).app ?_;rw[lO he _ (d+1) (by omega)];refine mT ?_;rw[(D6 (by omega)).1];intro w j;simp only[bP,bO,dF]at j;rcases j with rfl|rfl|rfl|rfl<;>exact wB (by decide) (by decide) (by decide) (by omega)
 |put i e hl he=>
  intro q d hd b;rw[AN];refine(UZ he q d (by omega)).app ?_;rw[lO he q d (by omega)];refine mT ?_;rw[(pH (A:=941621248) (X:=gF 24 2 0 0) (g:=1) (by decide) (by decide) (by decide) (by decide) (by decide) (by decide) (by omega) (by omega)).1];exact lX (by omega) (by omega) (pC (by decide) (by decide) (by decide))
 |cond i e t hl he ht ih=>
  intro q d hd b;rw[E7]at b;simp only[aH,aQ,aV]at b;have l:=MN (N:=N) (q:=q+(fR e).length+1) (d:=d) (fun m f q b=>⟨ML k (ht m f) q d (by omega) b,jN (ht m f) q⟩) (by omega);have j:=XP (N:=N) (q:=q+(fR e).length+1) (d:=d) (fun m f q b=>⟨ih m f q d (by omega) b,ML k (ht m f) q d (by omega) b,jN (ht m f) q⟩) (by omega);rw[AM];refine(UZ he q d (by omega)).app ?_;rw[lO he q d (by omega),gH];refine Kw.app (mT ?_) ?_
  ·rw[(Nh (by omega) (by omega)).1]
   exact lX (by omega) (by omega) (wB (by decide) (by decide) (by decide) (by omega))
  rw[eL,(Nh (by omega) (by omega)).2,show(((d+1:Nat):Int)- 1)=(d:Int)by omega];refine Kw.app j ?_;rw[show q+(fR e).length+[857735172+4 *((q+(fR e).length+1+(jX t).length:Nat):Int)].length=q+(fR e).length+1 from rfl,l];refine mT ?_;rw[(pH (A:=1125253120) (X:=gF 3 1 2 0) (g:=2) (by decide) (by decide) (by decide) (by decide) (by decide) (by decide) (by omega) (by omega)).1];exact lX (by omega) (by omega) (pC (by decide) (by decide) (by decide))
 |loop i e t hl he ht ih=>
  intro q d hd b;rw[E6]at b;simp only[aH,aQ,aV]at b;have l:=MN (N:=N) (q:=q+1+(fR e).length+1) (d:=d+1) (fun m f q b=>⟨ML k (ht m f) q (d+1) (by omega) b,jN (ht m f) q⟩) (by omega);have j:=XP (N:=N) (q:=q+1+(fR e).length+1) (d:=d+1) (fun m f q b=>⟨ih m f q (d+1) (by omega) b,ML k (ht m f) q (d+1) (by omega) b,jN (ht m f) q⟩) (by omega);rw[AK];refine Kw.app (mT ?_) ?_
  ·rw[(Vm (by omega) (by omega)).1]
   exact lX (by omega) (by omega) (wB (by decide) (by decide) (by decide) (by omega))
  rw[eL,(Vm (by omega) (by omega)).2];rw[show zl ((d:Int)+1) 0=zl ((d+1:Nat):Int) 0 from rfl,show q+[(87:Int)].length=q+1 from rfl];refine(UZ he (q+1) (d+1) (by omega)).app ?_;rw[lO he (q+1) (d+1) (by omega),gH];refine Kw.app (mT ?_) ?_
  ·rw[(Nh (by omega) (by omega)).1]
   exact lX (by omega) (by omega) (wB (by decide) (by decide) (by decide) (by omega))
  rw[eL,(Nh (by omega) (by omega)).2,show(((d+1+1:Nat):Int)- 1)=((d+1:Nat):Int)by omega];refine Kw.app j ?_;rw[show q+1+(fR e).length+[857735172+4 *((q+1+(fR e).length+1+(jX t).length:Nat):Int)].length=q+1+(fR e).length+1 from rfl,l];refine mT ?_;rw[(pH (A:=908066816) (X:=gF 22 2 0 0) (g:=1) (by decide) (by decide) (by decide) (by decide) (by decide) (by decide) (by omega) (by omega)).1];exact lX (by omega) (by omega) (pC (by decide) (by decide) (by decide))
end
section
open Go.Al Go.ChangeShapes Go.WideShapes
structure XN (p:Pg):Prop where
 ok:p.ok
 fs: ∀f∈p.funs,f.params.length≤1100000∧f.locs.length≤1100000∧oZ f.body≤1000000
theorem XN.few {p:Pg} (h:XN p) (e:p.vars.length≤40) (d:p.arrs.length≤4) (b:gD p=true):p.few:=by
 simp only[gD,bC,bJ,dB]at b;refine⟨h.ok,by omega,by omega,by omega,fun f a=>?_⟩;have:=h.fs f a;have c:=b.2 f a;simp only[jC,bC,bJ]at c;omega
section
variable {H : Type} {enc : TypeId × Value → H} {P : Program} {w : World} {sp : Nat → Bool} {held : Bool}
end
section
variable {H : Type} {enc : TypeId × Value → H} {P : Program} {w : World} {sp : Nat → Bool} {held : Bool} (T : YX P)
end
end
theorem xI {V:UInt8→Prop} {A:Prop} {d:Int} {e:Ex} (h:SX V A d e):(fR e).length≤12 *e.sz:=by
 induction h with
 |num d n hl h=>have:=BS h;simp [fR,mG,jY,Ex.sz,sN];omega
 |var d c hl h hV=>simp [fR,mG,jY,Ex.sz,sN]
 |idx d a hl hA ha ih=>rw[fR,rZ];simp [jY,Ex.sz,sN];omega
 |get d hl=>simp [fR,mG,jY,Ex.sz,sN]
 |neg d a hl ha ih=>rw[fR,rZ];simp [jY,Ex.sz,sN];omega
 |op d o a b hl h ha hb iha ihb=>
  rw[fR,Vy]
  have :(jY 6 o 0 []).length≤1:=by
   simp only[jY,Int.reduceEq,cT,dK];cases opS[(o- 4).toNat]?<;>simp
  simp [Ex.sz,sN];omega
theorem Rl {l:List Sm} (h: ∀s∈l,(pX s).length≤12 *s.sz):(jX l).length≤12 *oZ l:=by
 induction l with
 |nil=>simp [jX]
 |cons s l ih=>
  have b:=h s (fK);have c:=ih fun x a=>h x (eZ _ a);rw[jX,oZ,aH];omega
theorem MS {V:UInt8→Prop} {A:Prop} {b:Int} {s:Sm} (h:SS V A b s):(pX s).length≤12 *s.sz:=by
 induction h with
 |set b c e hl hc hV he=>have:=xI he;simp [pX,rZ,Sm.sz,sN,oZ];omega
 |store b a e hl hA ha he=>have:=xI ha;have:=xI he;simp [pX,Vy,Sm.sz,sN,oZ];omega
 |put b e hl he=>have:=xI he;simp [pX,rZ,Sm.sz,sN,oZ];omega
 |cond b e t hl he ht ih=>have:=xI he;have:=Rl ih;simp [pX,rZ,Sm.sz,sN,oZ];omega
 |loop b e t hl he ht ih=>have:=xI he;have:=Rl ih;simp [pX,rZ,Sm.sz,sN,oZ];omega
end Go.Proofs.YtaecpjgmcffliaaGreatDoor
