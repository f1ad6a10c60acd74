/- Mja -/
import Derived.Test.YtaecpjgmcffliaaGreatDoorQe
import Derived.Test.YtaecpjgmcffliaaGreatDoorAl3
import Derived.Test.YtaecpjgmcffliaaGreatDoorWb
import Derived.Test.YtaecpjgmcffliaaGreatDoorSc1
import Derived.Test.YtaecpjgmcffliaaGreatDoorRows
import Derived.Test.YtaecpjgmcffliaaGreatDoorJf
set_option linter.unusedSimpArgs false
set_option linter.unusedVariables false
set_option maxRecDepth 10000
set_option maxHeartbeats 16000000
namespace Go.Al
def fY:Nat→Nat→List Nat
 |0,_=>[]
 |k+1,a=>a % 2::fY k (a/2)
def Qx:List Nat→Nat
 |[]=>0
 |b::l=>b+2 *Qx l
def pU (n:Nat):List AV:=[.int .i64 (n:Int)]
theorem qO: ∀(k a:Nat),(fY k a).length=k
 |0,_=>rfl
 |k+1,a=>by simp only[fY,aJ,qO k]
theorem pD: ∀(k a i:Nat),i<k→(fY k a)[i]?=some (a/2^i % 2)
 |0,_,_,h=>by omega
 |k+1,a,0,_=>by simp [fY]
 |k+1,a,i+1,h=>by
  simp only[fY,gP,pD k (a/2) i (by omega)];rw[VF,lZ,Nat.mul_comm 2]
def oP (op:Int) (x y:Nat):Nat:=if(x+y=2∧op≠11)∨(x+y=1∧op≠9)then 1 else 0
theorem GF: ∀l:List Nat,(∀x∈l,x≤1)→Qx l<2^l.length
 |[],_=>by simp [Qx]
 |x::l,h=>by
  have b:=GF l fun y a=>h y (fA _ a);have c:=h x dQ;simp only[Qx,aJ,lZ];omega
theorem Xk (op:Int): ∀(k a b:Nat),List.zipWith (oP op) (fY k a) (fY k b)=fY k (Qx (List.zipWith (oP op) (fY k a) (fY k b)))
 |0,_,_=>rfl
 |k+1,a,b=>by
  simp only[fY,VG,Qx];have h:oP op (a % 2) (b % 2)≤1:=by unfold oP;split<;>omega
  rw[show(oP op (a % 2) (b % 2)+2 *Qx (List.zipWith (oP op) (fY k (a/2)) (fY k (b/2)))) % 2=oP op (a % 2) (b % 2)by omega,show(oP op (a % 2) (b % 2)+2 *Qx (List.zipWith (oP op) (fY k (a/2)) (fY k (b/2))))/2=Qx (List.zipWith (oP op) (fY k (a/2)) (fY k (b/2)))by omega,←Xk op k]
theorem J5: ∀(k a b:Nat),a<2^k→b<2^k→Qx (List.zipWith (oP 9) (fY k a) (fY k b))=a&&&b
 |0,a,b,ha,hb=>by
  have :a=0:=by simp at ha;exact ha
  subst this;simp [fY,Qx]
 |k+1,a,b,ha,hb=>by
  simp only[fY,VG,Qx];rw[J5 k (a/2) (b/2) (by rw[lZ]at ha;omega) (by rw[lZ]at hb;omega)];have c:(a&&&b)/2=a/2&&&b/2:=Nat.and_div_two;have d:(a&&&b) % 2=a % 2&&&b % 2:=Nat.and_mod_two_pow (n:=1);rw[←Nat.div_add_mod (a&&&b) 2,c,d]
  have e:oP 9 (a % 2) (b % 2)=a % 2&&&b % 2:=by
   rcases oH a with x|x<;>rcases oH b with y|y<;>rw[x,y]<;>decide
  rw[e];omega
theorem GE: ∀(k a b:Nat),a<2^k→b<2^k→Qx (List.zipWith (oP 10) (fY k a) (fY k b))=a|||b
 |0,a,b,ha,hb=>by
  have :a=0:=by simp at ha;exact ha
  have :b=0:=by simp at hb;exact hb
  subst a;subst b;simp [fY,Qx]
 |k+1,a,b,ha,hb=>by
  simp only[fY,VG,Qx];rw[GE k (a/2) (b/2) (by rw[lZ]at ha;omega) (by rw[lZ]at hb;omega)];have c:(a|||b)/2=a/2|||b/2:=Nat.or_div_two
  have d:(a|||b) % 2=a % 2|||b % 2:=Nat.or_mod_two_pow (n:=1)
  rw[←Nat.div_add_mod (a|||b) 2,c,d]
  have e:oP 10 (a % 2) (b % 2)=a % 2|||b % 2:=by
   rcases oH a with x|x<;>rcases oH b with y|y<;>rw[x,y]<;>decide
  rw[e];omega
theorem J4: ∀(k a b:Nat),a<2^k→b<2^k→Qx (List.zipWith (oP 11) (fY k a) (fY k b))=a^^^b
 |0,a,b,ha,hb=>by
  have :a=0:=by simp at ha;exact ha
  have :b=0:=by simp at hb;exact hb
  subst a;subst b;simp [fY,Qx]
 |k+1,a,b,ha,hb=>by
  simp only[fY,VG,Qx];rw[J4 k (a/2) (b/2) (by rw[lZ]at ha;omega) (by rw[lZ]at hb;omega)];have c:(a^^^b)/2=a/2^^^b/2:=Nat.xor_div_two;have d:(a^^^b) % 2=a % 2^^^b % 2:=Nat.xor_mod_two_pow (n:=1);rw[←Nat.div_add_mod (a^^^b) 2,c,d]
  have e:oP 11 (a % 2) (b % 2)=a % 2^^^b % 2:=by
   rcases oH a with x|x<;>rcases oH b with y|y<;>rw[x,y]<;>decide
  rw[e];omega
def xM (op:Int) (a b:Nat):Nat:=Qx (List.zipWith (oP op) (fY 32 a) (fY 32 b))
theorem MS (op:Int) (x y:Nat):oP op x y≤1:=by unfold oP;split<;>omega
theorem IZ (op:Int) (a b:Nat):xM op a b<4294967296:=by
 have:=GF (List.zipWith (oP op) (fY 32 a) (fY 32 b)) fun x d=>by
  obtain⟨i,c⟩:=gF d;rw[List.getElem?_zipWith]at c;split at c
  ·cases c;exact MS _ _ _
  cases c
 simpa [List.length_zipWith,qO,xM]using this
theorem wP (n:Nat) (h:n<4294967296):(BitVec.ofInt 32 (n:Int)).toNat=n:=by
 rw[BitVec.toNat_ofInt];omega
theorem Xh (op:Int) (f:op=9∨op=10∨op=11) (a b:Nat) (c:a<4294967296) (d:b<4294967296):eX op a b=(((xM op a b:Nat):Int),(0:Int)):=by
 have e: ∀n:Nat,n<4294967296→IntKind.wrap .u32 (n:Int)=(n:Int):=fun n h=>by simp [IntKind.wrap,IntKind.signed,IntKind.bits];omega
 rcases f with rfl|rfl|rfl
 ·show(IntKind.wrap .u32 (BitVec.ofInt 32 a&&&BitVec.ofInt 32 b).toNat,(0:Int))=_
  rw[BitVec.toNat_and,wP a c,wP b d,xM,J5 32 a b c d,e _ (Nat.lt_of_le_of_lt Nat.and_le_left c)]
 ·show(IntKind.wrap .u32 (BitVec.ofInt 32 a|||BitVec.ofInt 32 b).toNat,(0:Int))=_
  rw[BitVec.toNat_or,wP a c,wP b d,xM,GE 32 a b c d,e _ (Nat.or_lt_two_pow (n:=32) c d)]
 show(IntKind.wrap .u32 (BitVec.ofInt 32 a^^^BitVec.ofInt 32 b).toNat,(0:Int))=_;rw[BitVec.toNat_xor,wP a c,wP b d,xM,J4 32 a b c d,e _ (Nat.xor_lt_two_pow (n:=32) c d)]
theorem pL (a b:Nat):((a:Int)).tmod (b:Int)=((a % b:Nat):Int):=by rw[Int.ofNat_tmod]
theorem yS (a b:Nat):((a:Int)).tdiv (b:Int)=((a/b:Nat):Int):=by rw[Int.ofNat_tdiv]
theorem Ze (n:Nat) (h:n<4294967296):IntKind.wrap .u32 (n:Int)=(n:Int):=by simp [IntKind.wrap,IntKind.signed,IntKind.bits];omega
theorem G4 (n:Nat) (h:n<18446744073709551616):IntKind.wrap .u64 (n:Int)=(n:Int):=by simp [IntKind.wrap,IntKind.signed,IntKind.bits];omega
theorem Vj {l:List Nat} {i x:Nat} (h:l[i]?=some x):(l.map pU)[i]?=some [.int .i64 (x:Int)]:=by rw[dH,h];rfl
theorem Z5 (op:Int) (a b k:Nat) (c:k<32):(List.zipWith (oP op) (fY 32 a) (fY 32 b))[k]?=some (oP op (a/2^k % 2) (b/2^k % 2)):=by
 rw[List.getElem?_zipWith,pD _ _ _ c,pD _ _ _ c]
section
variable {W : List Int} {inp : dC} {r bm bc : Nat} {vo vo' : AV} {s s' : Mc} {en en' : Int} {H H' : Hp}
theorem pS.store (h:pS W inp r bm bc vo s en H) (j:Nat) (v:Int) (p:eB v) (n:H' bm=some (.rows 1 ((s.mem.map iH).set j [.int .u32 v]))) (f: ∀b,b≠bm→H' b=H b):pS W inp r bm bc vo {s with mem:=s.mem.set j v} en H':=by
 obtain⟨l,i,k⟩:=h.c;refine⟨by rw[f _ (Ne.symm h.nmr)];exact h.r,by rw[n,qN],by rw[eE];exact h.ml,⟨l,i,by rw[f _ (Ne.symm h.mc)];exact k⟩, ?_,h.om,h.oc,h.mc,h.ol,h.u1,h.u2,fun x g=>?_,h.rd⟩
 ·rcases h.o with⟨a,d⟩|⟨b,a,d⟩
  ·exact .inl ⟨a,d⟩
  exact .inr ⟨b,a,by rw[f b (fun e=>h.om _ _ (by rw[a,e]))];exact d⟩
 rcases oU g with g|rfl
 ·exact h.um x g
 exact p
theorem pS.put {c:UInt8} (h:pS W inp r bm bc vo s en H) (y:s.out.length<65536) (t:dW 1 vo' (s.out.map sB++[sB c]) H') (i: ∀b o,H b=some o→vo≠ .osl 1 b (s.out.map sB).length→H' b=some o) (f: ∀b,off vo b→H b≠none→off vo' b) {H2:Hp}
  (u:H2 r=some (.rows 28 [[.int .i64 s.pc, .int .u32 0, .int .u32 s.r1, .int .u32 s.r2, .int .u32 0, .int .u32 0, .int .u32 0, .int .u32 0, .int .u32 0, .int .u32 0, .int .u32 0, .int .u32 0, .int .u32 0, .int .u32 0, .int .u32 0, .int .u32 0, .int .u32 0, .osl 1 bm 4224, .int .i64 s.rd, .str [], .int .i64 s.st, .int .i64 en,vo', .isl 4 (W.map V4), .isl 1 (W.map fun _=>[.bool true]), .isl 1 (W.map iH), .str inp, .osl 1 bc W.length]])) (d: ∀b,b≠r→H2 b=H' b):
  pS W inp r bm bc vo' {s with out:=s.out++[c]} en H2∧pV r bm bc vo vo' H H2:=by
 obtain⟨p,n,j⟩:=h.c;have x:off vo' r:=f r h.or (by rw[h.r];exact bY _);refine⟨⟨u,by rw[d _ h.nmr];exact i _ _ h.m (h.om _ _),h.ml,⟨p,n,by rw[d _ h.ncr];exact i _ _ j (h.oc _ _)⟩, ?_,f _ h.om (by rw[h.m];exact bY _),f _ h.oc (by rw[j];exact bY _),h.mc, ?_,h.u1,h.u2,h.um,h.rd⟩,fun b o k v z A l=>⟨by rw[d _ v];exact i _ _ k (l _ _),f b l (by rw[k];exact bY _)⟩⟩
 ·rw[cK]
  rcases t with⟨a,g⟩|⟨b,a,g⟩
  ·exact .inl ⟨a,g⟩
  exact .inr ⟨b,a,by rw[d b (fun e=>x _ _ (by rw[a,e]))];exact g⟩
 simp only[aB,bW];omega
end
theorem pS.seal {W:List Int} {inp:dC} {r g u:Nat} {vo:AV} {s:Mc} {v:Int} {H:Hp} {E:jV} {N:Nat} {Q:fK} {c:Code} {fr:Fr} (f:pS W inp r g u vo s v H)
  (h: ∀D A,(∀j,sX (fr j)=true→D j=fr j)→A r=some (.rows 28 [[.int .i64 s.pc, .int .u32 0, .int .u32 s.r1, .int .u32 s.r2, .int .u32 0, .int .u32 0, .int .u32 0, .int .u32 0, .int .u32 0, .int .u32 0, .int .u32 0, .int .u32 0, .int .u32 0, .int .u32 0, .int .u32 0, .int .u32 0, .int .u32 0, .isl 1 (s.mem.map iH), .int .i64 s.rd, .str [], .int .i64 s.st, .int .i64 v, .isl 1 (s.out.map sB), .isl 4 (W.map V4), .isl 1 (W.map fun _=>[.bool true]), .isl 1 (W.map iH), .str inp, .osl 1 u W.length]])→
   (∀b d l,b≠r→b≠g→off vo b→(∀r∈l, ∀x∈r,sX x=true)→H b=some (.rows d l)→A b=some (.rows d l))→lW E N c Q D A):lW E N c Q fr H:=by
 have L:H r=some (.rows 28 [[AV.int .i64 s.pc, .int .u32 0, .int .u32 s.r1, .int .u32 s.r2, .int .u32 0, .int .u32 0, .int .u32 0, .int .u32 0, .int .u32 0, .int .u32 0, .int .u32 0, .int .u32 0, .int .u32 0, .int .u32 0, .int .u32 0, .int .u32 0, .int .u32 0]++AV.osl 1 g 4224::[.int .i64 s.rd, .str [], .int .i64 s.st, .int .i64 v,vo, .isl 4 (W.map V4), .isl 1 (W.map fun _=>[.bool true]), .isl 1 (W.map iH), .str inp, .osl 1 u W.length]]):=f.r;have S:(s.mem.map iH).length=4224:=by rw[aE];exact f.ml
 have V:dW 1 (.osl 1 g 4224) (s.mem.map iH) H:= .inr ⟨g,by rw[S],f.m⟩;have T:=f.nmr;have k: ∀b,b≠g→off (.osl 1 g 4224) b:=fun b k sz n e=>by cases e;exact k rfl
 refine gW V L (fun x a=>?_) (fun x a=>?_) (k r (Ne.symm T)) fun Y H1 O P R=>?_
 ·simp only[bK,bM,dB]at a
  rcases a with rfl|rfl|rfl|rfl|rfl|rfl|rfl|rfl|rfl|rfl|rfl|rfl|rfl|rfl|rfl|rfl|rfl<;>exact bU rfl
 ·simp only[bK,bM,dB]at a
  rcases a with rfl|rfl|rfl|rfl|rfl|rfl|rfl|rfl|rfl|rfl
  ·exact bU rfl
  ·exact bU rfl
  ·exact bU rfl
  ·exact bU rfl
  ·exact fun d b n e=>k b fun p=>f.om d n (by rw[e,p])
  ·exact bU rfl
  ·exact bU rfl
  ·exact bU rfl
  ·exact bU rfl
  exact fun d b n e=>by cases e;exact k _ (Ne.symm f.mc)
 have G: ∀b d l,b≠r→b≠g→(∀r∈l, ∀x∈r,sX x=true)→H b=some (.rows d l)→H1 b=some (.rows d l):=fun b d l y B C z=>R b d l y (k b B) (fun r t x a=>bU (C r t x a)) z
 have U:dW 1 vo (s.out.map sB) H1:=by
  rcases f.o with⟨i,p⟩|⟨b,i,p⟩
  ·exact .inl ⟨i,p⟩
  refine .inr ⟨b,i,G b _ _ (fun e=>f.or _ _ (by rw[i,e])) (fun e=>f.om _ _ (by rw[i,e])) (fun r t x a=>?_) p⟩;obtain⟨c,_,rfl⟩:=kQ.1 t;simp only[sB,bA]at a;subst a;rfl
 have M:H1 r=some (.rows 28 [[AV.int .i64 s.pc, .int .u32 0, .int .u32 s.r1, .int .u32 s.r2, .int .u32 0, .int .u32 0, .int .u32 0, .int .u32 0, .int .u32 0, .int .u32 0, .int .u32 0, .int .u32 0, .int .u32 0, .int .u32 0, .int .u32 0, .int .u32 0, .int .u32 0, .isl 1 (s.mem.map iH), .int .i64 s.rd, .str [], .int .i64 s.st, .int .i64 v]++vo::[.isl 4 (W.map V4), .isl 1 (W.map fun _=>[.bool true]), .isl 1 (W.map iH), .str inp, .osl 1 u W.length]]):=P;refine gW U M (fun x a=>?_) (fun x a=>?_) f.or fun J I k1 X k3=>?_
 ·simp only[bK,bM,dB]at a
  rcases a with rfl|rfl|rfl|rfl|rfl|rfl|rfl|rfl|rfl|rfl|rfl|rfl|rfl|rfl|rfl|rfl|rfl|rfl|rfl|rfl|rfl|rfl<;>exact bU rfl
 ·simp only[bK,bM,dB]at a
  rcases a with rfl|rfl|rfl|rfl|rfl
  ·exact bU rfl
  ·exact bU rfl
  ·exact bU rfl
  ·exact bU rfl
  exact fun d b n e=>by cases e;exact f.oc
 refine h J I (fun j F=>?_) X fun b d l y B C z K=>k3 b d l y C (fun r t x a=>bU (z r t x a)) (G b d l y B z K);have i:=O j (bU F);rw[k1 j (by rw[i];exact bU F),i]
theorem qJ: ∀{L:List Int} {i:Nat} {x:Int},L[i]?=some x→ ∀j,j<4→(uP L)[4 *i+j]?=(RB x)[j]?
 |[],i,x,h,_,_=>by simp at h
 |y::L,0,x,h,j,hj=>by
  simp only[gB,Option.some.injEq]at h;subst h;rw[Nat.mul_zero,eC];show(RB y++uP L)[j]?=_;rw[fB (by show j<4;exact hj)]
 |y::L,i+1,x,h,j,hj=>by
  rw[gP]at h;show(RB y++uP L)[4 *(i+1)+j]?=_;have a:(RB y).length=4:=rfl;rw[gQ (by rw[a];omega),a,show 4 *(i+1)+j- 4=4 *i+j by omega];exact qJ h j hj
theorem Qk (x:Int):(((UInt8.ofNat (x % 256).toNat).toNat:Nat):Int)=x % 256:=by
 rw[UInt8.toNat_ofNat'];omega
instance opK_dec (o:Int):Decidable (TZ o):=by unfold TZ;infer_instance
def OS (w:Int):Prop:=eB w∧Za w
theorem oM {o a b c:Int} (j:(0≤o∧o≤200)∧(0≤a∧a≤15)∧(0≤b∧b≤15)∧(0≤c∧c≤65535)) (i:TZ o) (h:QN o a b c=true):OS (hI o a b c):=by
 have d:hI o a b c/16777216=o:=by simp only[hI];omega
 have e:hI o a b c/1048576 % 16=a:=by simp only[hI];omega
 have f:hI o a b c/65536 % 16=b:=by simp only[hI];omega
 have g:hI o a b c % 65536=c:=by simp only[hI];omega
 unfold OS Za;rw[d,e,f,g];exact⟨⟨by simp only[hI];omega,by simp only[hI];omega⟩,i,h⟩
theorem vG {o a b c:Int} (d:(0≤o∧o≤200)∧(0≤a∧a≤15)∧(0≤b∧b≤15)) (k:TZ o) (h:(P8 (Rn (Qw o) 97) a 15&&P8 (Rn (Qw o) 98) b 15&&Rn (Qw o) 99&& !Rn (Qw o) 114)=true) (e:0≤c∧c≤65535):OS (hI o a b c):=by
 refine oM ⟨d.1,d.2.1,d.2.2,e⟩ k ?_;simp only[aU,eD]at h;obtain⟨⟨⟨f,g⟩,i⟩,j⟩:=h;unfold QN;rw[f,g,i,j];simp [P8,e]
theorem lK {d X e:Int} (hd:0≤d∧d≤200) (c: -1≤e∧e≤200) (b:OS X): ∀w∈Ei d X e,OS w:=fun w a=>by
 simp only[Ei,bK,bM,dB]at a;rcases a with rfl|rfl|rfl|rfl
 ·exact vG (by decide) (by decide) (by decide) (by omega)
 ·exact vG (by decide) (by decide) (by decide) (by omega)
 ·exact b
 exact vG (by decide) (by decide) (by decide) (by omega)
theorem QG {o:Int} (h:4≤o∧o≤15):OS (hI o 1 1 2):=by
 have :o=4∨o=5∨o=6∨o=7∨o=8∨o=9∨o=10∨o=11∨o=12∨o=13∨o=14∨o=15:=by omega
 rcases this with rfl|rfl|rfl|rfl|rfl|rfl|rfl|rfl|rfl|rfl|rfl|rfl<;>exact oM (by decide) (by decide) (by decide)
def Kw (q:Nat) (z:Zs) (A:List Int):Prop:= ∀w∈(jN A q z).2,OS w
theorem Kw.app {q:Nat} {z:Zs} {A B:List Int} (b:Kw q z A) (c:Kw (q+A.length) (jN A q z).1 B):Kw q z (A++B):=fun w a=>by
 rw[yP]at a;rcases eR.1 a with h|h
 ·exact b w h
 exact c w h
def kE:List Ex→Nat
 |[]=>0
 |e::l=>pM e.kids+kE l
def kS:List Sm→Nat
 |[]=>0
 |e::l=>pM e.es+mQ e.thn+mQ e.els+kS l
theorem OW: ∀l:List Ex,pM l=l.length+kE l
 |[]=>rfl
 |e::l=>by have:=OW l;have:=e.sz_eq;simp only[pM,kE,aJ];omega
theorem OV: ∀l:List Sm,mQ l=l.length+kS l
 |[]=>rfl
 |e::l=>by have:=OV l;have:=e.sz_eq;simp only[mQ,kS,aJ];omega
theorem Rh (e:Ex): ∀l:List Ex,kE (l++[e])=kE l+pM e.kids
 |[]=>by simp [kE]
 |x::l=>by simp only[cN,kE,Rh e l];omega
theorem Rf (e:Sm): ∀l:List Sm,kS (l++[e])=kS l+(pM e.es+mQ e.thn+mQ e.els)
 |[]=>by simp [kS]
 |x::l=>by simp only[cN,kS,Rf e l];omega
theorem L8: ∀(l:List Ex) (k:Nat),kE (l.take k)≤kE l
 |[],k=>by simp
 |x::l,0=>by simp [kE]
 |x::l,k+1=>by have:=L8 l k;simp only[fR,kE];omega
theorem L2: ∀(l:List Sm) (k:Nat),kS (l.take k)≤kS l
 |[],k=>by simp
 |x::l,0=>by simp [kS]
 |x::l,k+1=>by have:=L2 l k;simp only[fR,kS];omega
def D6 (f:Fu):Nat:=f.params.length+f.locs.length+mQ f.body
def xY:List Fu→Nat
 |[]=>0
 |f::l=>D6 f+xY l
theorem Nj (f:Fu): ∀l:List Fu,xY (l++[f])=xY l+D6 f
 |[]=>by simp [xY]
 |x::l=>by simp only[cN,xY,Nj f l];omega
theorem H9 (B:Nat): ∀l:List Fu,(∀f∈l,D6 f≤B)→xY l≤l.length *B
 |[],_=>by simp [xY]
 |x::l,h=>by
  have:=H9 B l fun f a=>h f (fA _ a);have:=h x (dQ);simp only[xY,aJ,Nat.succ_mul];omega
def Gj (p:Pg):Nat:=p.vars.length+p.arrs.length+p.funs.length+xY p.funs
theorem qG {a b:Nat} (h:a+b≤9223372036854775807):IntKind.wrap .i64 ((a:Int)+(b:Int))=((a+b:Nat):Int):=by rw[aT _ (by omega)];omega
theorem W7 {n:Int} (h:eB n):(Lib.decDigits n.toNat).length≤11:=by
 have b: ∀(k:Nat) (m:Nat),m<10^(k+1)→(Lib.decDigits m).length≤k+1:=by
  intro k
  induction k with
  |zero=>intro m a;rw[Lib.decDigits,dif_pos (by omega)];simp
  |succ k ih=>
   intro m a;rw[Lib.decDigits];split
   ·simp
   have:=ih (m/10) (by rw[lZ]at a;omega);simp only[aB,aJ,aS];omega
 have:=b 9 n.toNat (by have:=h.2;have:=h.1;omega);omega
structure fM (p:Pg) (cx:Cx) (r:Nat) (vv:AV) (abs:List Nat) (st:RS) (vo:AV) (en:Int) (H:Hp):Prop where
 r:H r=some (.rows 11 [[.isl 1 (p.vars.map bH), .isl 2 (p.arrs.map Ar.row), .isl 5 (p.funs.map Fu.row), .str cx.inp, .int .i64 cx.fuel,vv, .isl 1 (fN abs st.arrs),vo, .int .i64 st.read, .int .i64 st.ticks, .int .i64 en]])
 v:dW 1 vv (st.vars.map iH) H
 al:abs.length=st.arrs.length
 a: ∀(i:Nat) b l,abs[i]?=some b→st.arrs[i]?=some l→H b=some (.rows 1 (l.map iH))
 nd:abs.Nodup
 va: ∀b∈abs,off vv b
 o:dW 1 vo (st.out.map sB) H
 ov: ∀s b n,vv= .osl s b n→off vo b
 oa: ∀b∈abs,off vo b
 uv: ∀x∈st.vars,eB x
 ua: ∀l∈st.arrs,l.length≤4096∧ ∀x∈l,eB x
 ub:st.out.length≤65536
 rd:st.read≤cx.inp.length
 tk:st.ticks≤cx.fuel
def dV (r:Nat) (vv:AV) (abs:List Nat) (vo vo':AV) (H H':Hp):Prop:= ∀b o,H b=some o→b≠r→off vv b→b∉abs→off vo b→H' b=some o∧off vo' b
structure hJ (vv:AV) (abs:List Nat) (vo:AV) (wv:AV) (ow:List Int) (H:Hp):Prop where
 h:dW 1 wv (ow.map iH) H
 nv: ∀s b n,wv= .osl s b n→off vv b
 na: ∀s b n,wv= .osl s b n→b∉abs
 nf: ∀s b n,wv= .osl s b n→off vo b
def kC (r:Nat) (vv:AV) (abs:List Nat) (vo vo':AV) (x:Nat) (wv:AV) (H H':Hp):Prop:= ∀b o,H b=some o→b≠r→off vv b→b∉abs→off vo b→b≠x→off wv b→H' b=some o∧off vo' b
section
variable {p : Pg} {cx : Cx} {r : Nat} {vv vo vo' vo2 wv : AV} {abs : List Nat} {st : RS} {en : Int} {ow : List Int} {H H' H2 : Hp} {x : Nat}
theorem dV.refl (r:Nat) (vv:AV) (abs:List Nat) (vo:AV) (H:Hp):dV r vv abs vo vo H H:=fun _ _ h _ _ _ a=>⟨h,a⟩
theorem dV.trans (h:dV r vv abs vo vo' H H') (g:dV r vv abs vo' vo2 H' H2):dV r vv abs vo vo2 H H2:=fun b o j a c d i=>by
 obtain⟨e,f⟩:=h b o j a c d i;exact g b o e a c d f
theorem dV.w (h:dV r vv abs vo vo' H H') (x:Nat) (wv:AV):kC r vv abs vo vo' x wv H H':=fun b o f a c d e _ _=>h b o f a c d e
theorem kC.trans (h:kC r vv abs vo vo' x wv H H') (j:kC r vv abs vo' vo2 x wv H' H2):kC r vv abs vo vo2 x wv H H2:=fun b o l a c d k e f=>by
 obtain⟨g,i⟩:=h b o l a c d k e f;exact j b o g a c d i e f
theorem kC.new {b:Nat} {o:Option gY} (l:H b=none) (h:kC r vv abs vo vo' x wv (Al.upd H b o) H'):kC r vv abs vo vo' x wv H H':=fun c n a d f g i j k=>by
 have :c≠b:=fun e=>by rw[e,l]at a;cases a
 exact h c n (by rw[cR _ _ this];exact a) d f g i j k
theorem dV.new {b:Nat} {o:Option gY} (j:H b=none) (h:dV r vv abs vo vo' (Al.upd H b o) H'):dV r vv abs vo vo' H H':=fun c k a d f g i=>by
 have :c≠b:=fun e=>by rw[e,j]at a;cases a
 exact h c k (by rw[cR _ _ this];exact a) d f g i
theorem dV.updN (h:dV r vv abs vo vo' H H') {b:Nat} (l:H b=none) (o:Option gY):dV r vv abs vo vo' H (Al.upd H' b o):=fun c n a g i j k=>by
 obtain⟨d,f⟩:=h c n a g i j k;have :c≠b:=fun e=>by rw[e,l]at a;cases a
 exact⟨by rw[cR _ _ this];exact d,f⟩
theorem fM.same (h:fM p cx r vv abs st vo en H) (a: ∀b,H' b=H b):fM p cx r vv abs st vo en H':=by
 have :H'=H:=funext a;rw[this];exact h
theorem hJ.same (h:hJ vv abs vo wv ow H) (a: ∀b,H' b=H b):hJ vv abs vo wv ow H':=by
 have :H'=H:=funext a;rw[this];exact h
theorem fM.abs_some (h:fM p cx r vv abs st vo en H) {b:Nat} (d:b∈abs): ∃l,H b=some (.rows 1 l):=by
 obtain⟨i,c⟩:=gF d;have e:i<st.arrs.length:=by have:=(bC.1 c).1;rw[←h.al];exact this
 exact⟨_,h.a i b _ c (aD e)⟩
theorem fM.apart (h:fM p cx r vv abs st vo en H) {b sz:Nat} {l:List (List AV)} (a:H b=some (.rows sz l)) (c:sz≠1) (d:sz≠11):b≠r∧off vv b∧b∉abs∧off vo b:=
 ⟨fun e=>by rw[e,h.r]at a;cases a;exact d rfl,h.v.offsz a c,fun e=>by obtain⟨g,f⟩:=h.abs_some e;rw[f]at a;cases a;exact c rfl,h.o.offsz a c⟩
theorem fM.keep (h:fM p cx r vv abs st vo en H) {b sz:Nat} {l:List (List AV)} (a:H b=some (.rows sz l)) (g:sz≠1) (i:sz≠11) (j:dV r vv abs vo vo' H H'):H' b=some (.rows sz l):=by
 obtain⟨c,d,e,f⟩:=h.apart a g i;exact(j b _ a c d e f).1
theorem fM.keepW (h:fM p cx r vv abs st vo en H) (k:hJ vv abs vo wv ow H) {b sz:Nat} {l:List (List AV)} (a:H b=some (.rows sz l)) (c:sz≠1) (i:sz≠11) (n:b≠x) (j:kC r vv abs vo vo' x wv H H'):H' b=some (.rows sz l):=by
 obtain⟨d,e,f,g⟩:=h.apart a c i;exact(j b _ a d e f g n (k.h.offsz a c)).1
theorem fM.nr (h:fM p cx r vv abs st vo en H) {b:Nat} {l:List (List AV)} (a:H b=some (.rows 1 l)):b≠r:=fun e=>by rw[e,h.r]at a;cases a
theorem hJ.keep (h:hJ vv abs vo wv ow H) (g:fM p cx r vv abs st vo en H) (f:dV r vv abs vo vo' H H'):hJ vv abs vo' wv ow H':=by
 rcases h.h with⟨rfl,e⟩|⟨b,rfl,a⟩
 ·exact⟨.inl ⟨rfl,e⟩,(fun _ _ _ e=>by cases e),(fun _ _ _ e=>by cases e),(fun _ _ _ e=>by cases e)⟩
 obtain⟨c,d⟩:=f b _ a (g.nr a) (h.nv _ _ _ rfl) (h.na _ _ _ rfl) (h.nf _ _ _ rfl);exact⟨.inr ⟨b,rfl,c⟩,h.nv,h.na,fun s i n e=>by cases e;exact d⟩
theorem fM.new (h:fM p cx r vv abs st vo en H) {b:Nat} (c:H b=none) (o:Option gY):fM p cx r vv abs st vo en (upd H b o):=by
 have k:r≠b:=fun e=>by have:=h.r;rw[e,c]at this;cases this
 refine {h with r:=by rw[cR _ _ k];exact h.r,v:=h.v.upd c o,a:=fun i d l f j=>?_,o:=h.o.upd c o};have n:d≠b:=fun e=>by obtain⟨l,g⟩:=h.abs_some (aW f);rw[e,c]at g;cases g
 rw[cR _ _ n];exact h.a i d l f j
theorem hJ.new (h:hJ vv abs vo wv ow H) {b:Nat} (a:H b=none) (o:Option gY):hJ vv abs vo wv ow (upd H b o):=⟨h.h.upd a o,h.nv,h.na,h.nf⟩
theorem hJ.off (h:hJ vv abs vo wv ow H) {b:Nat} (a:Al.off wv b) (o:Option gY):hJ vv abs vo wv ow (upd H b o):=⟨h.h.off a o,h.nv,h.na,h.nf⟩
theorem fM.other (h:fM p cx r vv abs st vo en H) {b:Nat} (g:b≠r) (j:Al.off vv b) (k:b∉abs) (n:Al.off vo b) (o:Option gY):fM p cx r vv abs st vo en (upd H b o):=by
 refine {h with r:=by rw[cR _ _ (Ne.symm g)];exact h.r,v:=h.v.off j o,a:=fun i d l c f=>?_,o:=h.o.off n o};rw[cR _ _ (fun e=>k (by rw[←e];exact aW c))];exact h.a i d l c f
theorem fM.turn (h:fM p cx r vv abs st vo en H) {st':RS} (en':Int) (f:st'.vars=st.vars) (b:st'.arrs=st.arrs) (e:st'.out=st.out) (n:st'.read≤cx.inp.length) (t:st'.ticks≤cx.fuel):
  fM p cx r vv abs st' vo en' (upd H r (some (.rows 11 [[.isl 1 (p.vars.map bH), .isl 2 (p.arrs.map Ar.row), .isl 5 (p.funs.map Fu.row), .str cx.inp, .int .i64 cx.fuel,vv, .isl 1 (fN abs st.arrs),vo, .int .i64 st'.read, .int .i64 st'.ticks, .int .i64 en']]))):=by
 have k:off vo r:=h.o.offsz h.r (by decide);have u:off vv r:=h.v.offsz h.r (by decide);refine⟨by rw[bG,b],by rw[f];exact h.v.off u _,by rw[b];exact h.al,fun i g l j c=>?_,h.nd,h.va,by rw[e];exact h.o.off k _,h.ov,h.oa,by rw[f];exact h.uv,by rw[b];exact h.ua,by rw[e];exact h.ub,n,t⟩;rw[b]at c;have d:=h.a i g l j c;rw[cR _ _ (h.nr d)];exact d
theorem dV.run (o:Option gY):dV r vv abs vo vo H (upd H r o):=fun d e c a _ _ b=>⟨by rw[cR _ _ a];exact c,b⟩
theorem dV.vars {s b n:Nat} (f:vv= .osl s b n) (o:Option gY):dV r vv abs vo vo H (upd H b o):=fun g i d _ a _ c=>⟨by rw[cR _ _ (fun e=>a _ _ (by rw[f,e]))];exact d,c⟩
theorem dV.arr {b:Nat} (d:b∈abs) (o:Option gY):dV r vv abs vo vo H (upd H b o):=fun g i f _ _ a c=>⟨by rw[cR _ _ (fun e=>a (by rw[e];exact d))];exact f,c⟩
theorem fM.setV {b:Nat} (h:fM p cx r (.osl 1 b st.vars.length) abs st vo en H) (i:Nat) (v:Int) (k:eB v):fM p cx r (.osl 1 b st.vars.length) abs {st with vars:=st.vars.set i v} vo en (upd H b (some (.rows 1 ((st.vars.map iH).set i [.int .u32 v])))):=by
 have d:H b=some (.rows 1 (st.vars.map iH)):=by
  rcases h.v with⟨e,_⟩|⟨c,e,d⟩
  ·cases e
  simp only[AV.osl.injEq]at e;obtain⟨_,rfl,_⟩:=e;exact d
 have n:r≠b:=fun e=>h.nr d e.symm;refine⟨?_, ?_,h.al,fun i c l g j=>?_,h.nd,h.va,h.o.off (h.ov _ _ _ rfl) _,h.ov,h.oa,fun x f=>?_,h.ua,h.ub,h.rd,h.tk⟩
 ·rw[cR _ _ n];exact h.r
 ·exact .inr ⟨b,by simp,by rw[bG,qN]⟩
 ·rw[cR _ _ (fun e=>h.va c (aW g) _ _ (by rw[e]))];exact h.a i c l g j
 rcases oU f with f|rfl
 ·exact h.uv x f
 exact k
theorem fM.setA (h:fM p cx r vv abs st vo en H) {i:Nat} {b:Nat} {l:List Int} (g:abs[i]?=some b) (A:st.arrs[i]?=some l) (j:Nat) (v:Int) (E:eB v):fM p cx r vv abs {st with arrs:=st.arrs.modify i fun l=>l.set j v} vo en (upd H b (some (.rows 1 ((l.map iH).set j [.int .u32 v])))):=by
 have B:=aW g;have F:r≠b:=fun e=>h.nr (h.a i b l g A) e.symm;refine⟨?_,h.v.off (h.va b B) _,by simp only[List.length_modify];exact h.al,fun d z n t c=>?_,h.nd,h.va,h.o.off (h.oa b B) _,h.ov,h.oa,h.uv,fun n C=>?_,h.ub,h.rd,h.tk⟩
 ·rw[cR _ _ F]
  simp only;rw[vZ abs st.arrs i _ (fun l=>by simp)];exact h.r
 ·simp only[XN]at c
  by_cases u:i=d
  ·subst u
   rw[g]at t;cases t;rw[A]at c;have c:l.set j v=n:=by simpa using c
   subst c;rw[bG,qN]
  have c:st.arrs[d]?=some n:=by simpa [aM u]using c
  have :z≠b:=fun e=>by
   subst e;exact u ((List.getElem?_inj (bC.1 g).1 h.nd).1 (g.trans t.symm))
  rw[cR _ _ this];exact h.a d z n t c
 obtain⟨d,k⟩:=gF C;rw[XN]at k
 obtain⟨f,D,rfl⟩: ∃f,st.arrs[d]?=some f∧(if i=d then f.set j v else f)=n:=by
  cases hq:st.arrs[d]? with
  |none=>rw[hq]at k;simp at k
  |some f=>rw[hq]at k;exact⟨f,rfl,by simpa using k⟩
 have:=h.ua f (aW D);split
 ·refine⟨by simpa using this.1,fun x y=>?_⟩
  rcases oU y with y|rfl
  ·exact this.2 x y
  exact E
 exact this
theorem fM.put {v':AV} (h:fM p cx r vv abs st vo en H) {c:UInt8} (A:st.out.length<65536) (B:dW 1 v' (st.out.map sB++[sB c]) H')
  (u: ∀b o,H b=some o→vo≠ .osl 1 b (st.out.map sB).length→H' b=some o) (j: ∀b,off vo b→H b≠none→off v' b):
  fM p cx r vv abs {st with out:=st.out++[c]} v' en (upd H' r (some (.rows 11 [[.isl 1 (p.vars.map bH), .isl 2 (p.arrs.map Ar.row), .isl 5 (p.funs.map Fu.row), .str cx.inp, .int .i64 cx.fuel,vv, .isl 1 (fN abs st.arrs),v', .int .i64 st.read, .int .i64 st.ticks, .int .i64 en]])))∧
  dV r vv abs vo v' H (upd H' r (some (.rows 11 [[.isl 1 (p.vars.map bH), .isl 2 (p.arrs.map Ar.row), .isl 5 (p.funs.map Fu.row), .str cx.inp, .int .i64 cx.fuel,vv, .isl 1 (fN abs st.arrs),v', .int .i64 st.read, .int .i64 st.ticks, .int .i64 en]]))):=by
 have C:off vo r:=h.o.offsz h.r (by decide);have G:off vv r:=h.v.offsz h.r (by decide);have D:off v' r:=j r C (by rw[h.r];exact bY _)
 have E: ∀s b n,vv= .osl s b n→H b=some (.rows 1 (st.vars.map iH)):=fun s b n e=>by
  rcases h.v with⟨t,_⟩|⟨k,t,d⟩
  ·rw[t]at e;cases e
  rw[t]at e;cases e;exact d
 refine⟨⟨bG _ _ _, ?_,h.al,fun i k l f y=>?_,h.nd,h.va, ?_,fun s b n e=>j b (h.ov s b n e) (by rw[E s b n e];exact bY _),fun b d=>j b (h.oa b d) (by obtain⟨l,A⟩:=h.abs_some d;rw[A];exact bY _),h.uv,h.ua, ?_,h.rd,h.tk⟩,fun b o d f y F z=>⟨?_,j b z (by rw[d];exact bY _)⟩⟩
 ·rcases h.v with g|⟨b,e,d⟩
  ·exact .inl g
  exact .inr ⟨b,e,by rw[cR _ _ (h.nr d)];exact u _ _ d (h.ov _ _ _ e _ _)⟩
 ·have d:=h.a i k l f y
  rw[cR _ _ (h.nr d)];exact u _ _ d (h.oa k (aW f) _ _)
 ·rw[cK]
  exact B.off D _
 ·simp only[aB,bW];omega
 rw[cR _ _ f];exact u _ _ d (z _ _)
theorem hJ.osl (h:hJ vv abs vo wv ow H) {i:Nat} {y:Int} (c:ow[i]?=some y): ∃b,wv= .osl 1 b ow.length∧H b=some (.rows 1 (ow.map iH)):=by
 rcases h.h with⟨_,e⟩|⟨b,e,a⟩
 ·have:=congrArg List.length e
  have:=(bC.1 c).1;simp only[aE,aS]at *;omega
 exact⟨b,by rw[e,aE],a⟩
theorem fM.osl (h:fM p cx r vv abs st vo en H) {i:Nat} {y:Int} (c:st.vars[i]?=some y): ∃b,vv= .osl 1 b st.vars.length∧H b=some (.rows 1 (st.vars.map iH)):=by
 rcases h.v with⟨_,e⟩|⟨b,e,a⟩
 ·have:=congrArg List.length e
  have:=(bC.1 c).1;simp only[aE,aS]at *;omega
 exact⟨b,by rw[e,aE],a⟩
end
def mN {α:Type}:Rz α→Int| .val _ _=>0| .fin e _=>e
def uN {α:Type} (en:Int) (st:RS) (f:Option (Rz α)) (o:Rz α):Prop:=(en=0∧f=some o)∨(en≠0∧o= .fin en st)
def Vo (p:Pg) (cx:Cx) (r:Nat) (vv:AV) (abs:List Nat) (vo:AV) (H:Hp) (o:Rz Int):uZ→Hp→Prop:=fun ae H'=>
 ∃w vo',ae= .ret (.int .u32 w)∧eB w∧(∀v s,o= .val v s→w=v)∧(∀e s,o= .fin e s→e≠0)∧fM p cx r vv abs o.st vo' (mN o) H'∧dV r vv abs vo vo' H H'
def sS (p:Pg) (cx:Cx) (r:Nat) (vv:AV) (abs:List Nat) (vo:AV) (x i:Nat) (wv:AV) (n:Nat) (H:Hp) (o:Rz (Option Int×List Int)):uZ→Hp→Prop:=fun ae H'=>
 ∃ow bk vl vo',ae= .ret (.tup [])∧ow.length=n∧(∀y∈ow,eB y)∧eB vl∧(bk=false→vl=0)∧(∀q s,o= .val q s→ow=q.2∧bk=q.1.isSome∧vl=q.1.getD 0)∧(∀e s,o= .fin e s→e≠0)∧H' x=some (.rows 4 [[.int .i64 i,wv, .bool bk, .int .u32 vl]])∧hJ vv abs vo' wv ow H'∧fM p cx r vv abs o.st vo' (mN o) H'∧kC r vv abs vo vo' x wv H H'
theorem rW {b:Type} {o:Rz b} (a: ∀e s,o= .fin e s→e≠0) (h:mN o=0): ∃v s,o= .val v s:=by
 cases o with
 |val v s=>exact⟨v,s,rfl⟩
 |fin e s=>exact absurd h (a e s rfl)
theorem rX {a:Type} {o:Rz a} (h: ¬mN o=0): ∃e s,o= .fin e s:=by
 cases o with
 |val v s=>exact absurd rfl h
 |fin e s=>exact⟨e,s,rfl⟩
theorem PE {d g i:Type} {a:Rz d} {f:RS→Option (Rz g)} {K:d→g→RS→Option (Rz i)} {o:Rz i} (j: ∀e s,a= .fin e s→e≠0) (h:bindR (some a) (fun x s=>bindR (f s) (K x))=some o):
  ∃b,uN (mN a) a.st (f a.st) b∧((∃x c,a= .val x c∧f c=some b∧bindR (some b) (K x)=some o)∨(∃e s,a= .fin e s∧b= .fin e s∧o= .fin e s)):=by
 cases a with
 |fin e s=>exact⟨.fin e s, .inr ⟨j e s rfl,rfl⟩, .inr ⟨e,s,rfl,rfl,(Option.some.inj (show some (Rz.fin e s)=some o from h)).symm⟩⟩
 |val x s=>
  simp only[bindR]at h
  cases h2:f s with
  |none=>rw[h2]at h;cases h
  |some b=>rw[h2]at h;exact⟨b, .inl ⟨rfl,h2⟩, .inl ⟨x,s,rfl,h2,h⟩⟩
theorem fU {a:Ex}: ∀{l:List Ex},a∈l→(∀u∈mO a,u∈fE l)∧ ∀u∈fE a.kids,u∈fE l
 |x::l,h=>by
  rw[lG];rcases bK.1 h with rfl|h
  ·exact⟨fun u b=>by simp [b],fun u b=>by simp [b]⟩
  have:=fU h;exact⟨fun u b=>by simp [this.1 u b],fun u b=>by simp [this.2 u b]⟩
theorem Ly {a:Sm}: ∀{l:List Sm},a∈l→(∀u∈kI a,u∈dY l)∧(∀u∈fE a.es,u∈dY l)∧(∀u∈dY a.thn,u∈dY l)∧ ∀u∈dY a.els,u∈dY l
 |x::l,h=>by
  rw[mR];rcases bK.1 h with rfl|h
  ·exact⟨fun u b=>by simp [b],fun u b=>by simp [b],fun u b=>by simp [b],fun u b=>by simp [b]⟩
  have:=Ly h;exact⟨fun u b=>by simp [this.1 u b],fun u b=>by simp [this.2.1 u b],fun u b=>by simp [this.2.2.1 u b],fun u b=>by simp [this.2.2.2 u b]⟩
end Go.Al
namespace Go.Proofs.YtaecpjgmcffliaaGreatDoor
open Go.Al Go.Proofs.Tryz
theorem IB (b:Bool):eH dN 201 [.bool b] (.int .u32 (if b=true then 1 else 0)):=by
 cases b
 ·skip
  refine bX 4 [.tmp 2] func201 ?_;refine aA fun K a=>?_;simp only[RR,seval];refine a _ _ (aI (aA fun K a=>?_));simp only[RR,seval];refine a _ _ (bN ?_);refine aL ?_;simp only[RR];refine aA fun K a=>?_;simp only[RR,seval];apply a;refine aO ?_;simp only[aY,aK,bR,RR,seval];refine aZ.pure ?_;rfl
 skip;refine bX 4 [.tmp 2] func201 ?_;refine aA fun K a=>?_;simp only[RR,seval];refine a _ _ (aI (aA fun K a=>?_));simp only[RR,seval];refine a _ _ (cL (aA fun K a=>?_));simp only[RR,seval];apply a;refine aO ?_;simp only[aY,aK,bR,RR,seval];refine aZ.pure ?_;rfl
theorem Ys (a:Nat) (S:a<4294967296):Ym dN 231 [.int .u32 (a:Int)] 1 ((fY 32 a).map pU):=by
 have E:=qO 32 a;refine bX 18 [.tmp 2] func231 ?_;refine aA fun K b=>?_;simp only[RR,seval];refine b _ _ (aA fun K b=>?_);simp only[RR,seval];refine b _ _ (aI (aA fun K b=>?_));simp only[RR,seval];refine b _ _ (bT fun I L f R=>?_);have e:=f 0;have i:=f 2;have c:=f 3;have d:=f 4;simp only[RR,seval]at e i c d;refine aN (eT [2] (32) (fun k j M=>j 4= .int .i64 (k:Nat)∧j 0= .int .u32 ((a/2^k:Nat):Int)∧dW 1 (j 3) (((fY 32 a).take k).map pU) M) ⟨d,(by rw[e,Nat.pow_zero,Nat.div_one]), .inl ⟨c,rfl⟩⟩ ?_);rintro k n N U ⟨p,e,g⟩ o J C;have i:=(o 2 rfl).trans i;have d:=p;clear p;have u:=bB.refl [2] n;clear o;obtain⟨X,c⟩: ∃v,n 3=v:=⟨_,rfl⟩;rw[c]at g;refine aI (aA fun K b=>?_);simp only[d,RR,seval];refine b _ _ (aX ?_ ?_)<;>intro l
 ·have t:k<32:=by have:=aF l;omega
  clear l
  have H:(fY 32 a).take (k+1)=(fY 32 a).take k++[a/2^k % 2]:=by
   have z:=pD 32 a k t;obtain⟨A,B⟩:=bC.1 z;rw[bS A,B]
  have W:((fY 32 a).take k).length≤32:=by rw[dJ];omega
  have V:a/2^k≤a:=VR _ _;have F:a/2^(k+1)=a/2^k/2:=by rw[lZ,VF]
  generalize a/2^k=x at *;have P:((x:Int)).tmod 2=((x % 2:Nat):Int):=pL x 2;have y:IntKind.wrap .u32 (((x:Int)).tdiv 2)=((x/2:Nat):Int):=by rw[show((x:Int)).tdiv 2=((x/2:Nat):Int)from yS x 2,Ze _ (by omega)]
  have Q:IntKind.wrap .i64 ((x % 2:Nat):Int)=((x % 2:Nat):Int):=aT _ (by omega);refine aL ?_;simp only[RR];refine aI (aN (aA fun K b=>?_));simp only[*,RR,seval];refine dK ?_;simp only[RR,seval];refine jH g (by simp only[aE,aJ,aS];omega) (fun _=>trivial) fun Y O G T=>?_;simp only[RR,seval];refine b _ _ (aG ?_);simp only[e,y,RR,seval];refine aG ?_;simp only[d,RR,seval];rw[aT _ (by omega)];refine C _ _ t ⟨by rfl,(by rw[F];rfl),(by rw[H,cK,List.map_singleton];exact G)⟩ (by repeat (first|exact u|refine bB.upd rfl ?_))
 have D:k=32:=by have:=aH l;omega
 rw[D,rP (Nat.le_of_eq E)]at g;refine cC ?_;simp only[RR,seval];refine aA fun K b=>?_;simp only[c,RR,seval];apply b;refine aO ?_;simp only[aY,aK,bR,RR,seval];exact Ym.gives g
theorem LR (n:Nat) (o:n<4294967296):eH dN 232 [.isl 1 ((fY 32 n).map pU)] (.int .u32 (n:Int)):=by
 have C:=qO 32 n;refine bX 23 [.tmp 2] func232 ?_;refine aA fun K a=>?_;simp only[RR,seval];refine a _ _ (aA fun K a=>?_);simp only[RR,seval];refine a _ _ (aI (aA fun K a=>?_));simp only[aE,C,RR,seval];refine a _ _ (bT fun F H d O=>?_);have f:=d 0;have g:=d 2;have b:=d 3;have c:=d 4;simp only[RR,seval]at f g b c;refine aN ?_;refine iP [0,2] (32) (fun k l M=>k≤32∧l 4= .int .i64 ((k:Int)- 1)∧l 3= .int .u64 ((n/2^k:Nat):Int)) ⟨bE _,c,(by rw[b,Nat.div_eq_of_lt (by omega)];rfl)⟩ ?_;rintro k p I ⟨Q,c,b⟩ e G A;have f:=(e 0 rfl).trans f;have g:=(e 2 rfl).trans g;have t:=bB.refl [0,2] p;clear e;refine aI (aA fun K a=>?_);simp only[c,RR,seval];refine a _ _ (aX ?_ ?_)<;>intro i
 ·have j:=i;clear i
  obtain⟨m,rfl⟩: ∃m,k=m+1:=⟨k- 1,by have:=aF j;omega⟩;have P:=Vj (pD 32 n m (by omega));have R:n/2^m≤n:=VR _ _;have D:n/2^(m+1)=n/2^m/2:=by rw[lZ,VF]
  rw[D]at b;generalize E:n/2^m=x at *;have u:((m+1:Nat):Int)- 1=(m:Int):=by omega
  rw[u]at c;have J:IntKind.wrap .u64 (2 *((x/2:Nat):Int))=((2 *(x/2):Nat):Int):=by rw[show 2 *((x/2:Nat):Int)=((2 *(x/2):Nat):Int)by omega,G4 _ (by omega)]
  have L:IntKind.wrap .u64 ((x % 2:Nat):Int)=((x % 2:Nat):Int):=G4 _ (by omega);have N:IntKind.wrap .u64 (((2 *(x/2):Nat):Int)+((x % 2:Nat):Int))=(x:Int):=by rw[show((2 *(x/2):Nat):Int)+((x % 2:Nat):Int)=(x:Int)by omega,G4 _ (by omega)]
  have v:IntKind.wrap .i64 ((m:Int)- 1)=(m:Int)- 1:=aT _ (by omega);have S:(m:Int)<32:=by omega
  refine aL ?_;simp only[RR];refine aI (aN (aG ?_));simp only[*,RR,seval];refine aG ?_;simp only[c,v,RR,seval];refine A (m) _ _ (by omega) ⟨(by omega),rfl,(by rw[E];rfl)⟩ (by repeat (first|exact t|refine bB.upd rfl ?_))
 have j:=i;have B:k=0:=by have:=aH j;omega
 subst B;rw[Nat.pow_zero,Nat.div_one]at b;have y:((n:Int)).tmod 4294967296=(n:Int):=by rw[show((n:Int)).tmod 4294967296=((n % 4294967296:Nat):Int)from pL n 4294967296,Nat.mod_eq_of_lt o]
 have z:=Ze n o;refine cC ?_;simp only[RR,seval];refine aA fun K a=>?_;simp only[b,y,z,RR,seval];apply a;refine aO ?_;simp only[aY,aK,bR,RR,seval];refine aZ.pure ?_;rfl
theorem V2 (op:Int) (a b:Nat) (ha:a<4294967296) (hb:b<4294967296):eH dN 199 [.int .i64 op, .int .u32 (a:Int), .int .u32 (b:Int)] (.int .u32 ((xM op a b:Nat):Int)):=by
 have hO:=LR _ (IZ op a b);have a2:fY 32 (xM op a b)=List.zipWith (oP op) (fY 32 a) (fY 32 b):=(Xk op 32 a b).symm;rw[a2]at hO;have O:=Ys b hb;have hA:=Ys a ha;have H:=qO 32 a;have a6:=qO 32 b;have a7:(List.zipWith (oP op) (fY 32 a) (fY 32 b)).length=32:=by rw[List.length_zipWith,H,a6];rfl
 generalize hZ:List.zipWith (oP op) (fY 32 a) (fY 32 b)=Z at *;generalize xM op a b=w at *;have a1:=fun k E=>Z5 op a b k E;rw[hZ]at a1;clear hZ a2;have O:=O.pure;have b1:=fun k (E:k<32)=>pD 32 a k E;have b2:=fun k (E:k<32)=>Vj (pD 32 b k E);generalize fY 32 a=A at *;generalize fY 32 b=B at *;refine bX 50 [.tmp 6] func199 ?_;refine aA fun K c=>?_;simp only[RR,seval];apply c;clear c K;refine aA fun K c=>?_;simp only[RR,seval];refine JD (hA) fun c2 M1 b8 c3 c5=>?_;simp only[RR,seval];refine aP (O) ?_;simp only[RR,seval];apply c;clear c K;refine aI ?_
 obtain⟨i,b9,f⟩: ∃i,c2= .osl 1 i 32∧M1 i=some (.rows 1 (A.map pU)):=by
  rcases b8 with⟨_,N⟩|⟨i,Y,N⟩
  ·have:=congrArg List.length N
   rw[aE,H]at this;cases this
  rw[aE,H]at Y;exact⟨i,Y,N⟩
 subst b9;refine aA fun K c=>?_;simp only[RR,seval];apply c;clear c K;refine bT fun F2 M2 d p=>?_;have C:=d 0;have j:=d 6;have e:=d 7;have D:=d 8;have g:=d 9;have o:=p i;simp only[f,RR,seval]at C j e D g o;have f:=o;clear o;clear d p;refine aN ?_;refine eT [0,6,7,8] (32) (fun k fr M=>fr 9= .int .i64 (k:Nat)∧M i=some (.rows 1 ((Z.take k++A.drop k).map pU))) ⟨g,(by rw[fX,dI,dE];exact f)⟩ ?_;rintro k F3 M3 c4 ⟨X,f⟩ z K0 a0;have C:=(z 0 rfl).trans C;have j:=(z 6 rfl).trans j;have e:=(z 7 rfl).trans e;have D:=(z 8 rfl).trans D;have g:=X;clear X;have V:=bB.refl [0,6,7,8] F3;clear z;refine aI ?_;refine aA fun K c=>?_;simp only[g,RR,seval];apply c;clear c K;refine aX ?_ ?_<;>intro G
 ·have F:k<32:=by have:=aF G;omega
  clear G;have a5:=b1 k F;have S:=b2 k F;have U:=a1 k F;have c0:a/2^k % 2<2:=rN _ (by decide);have c1:b/2^k % 2<2:=rN _ (by decide);generalize a/2^k % 2=x at a5 U c0;generalize b/2^k % 2=y at S U c1;obtain⟨q1,q2⟩:=bC.1 a5;have b0:A.drop k=x::A.drop (k+1):=by rw[bJ q1,q2]
  have b6:Z.take (k+1)=Z.take k++[oP op x y]:=by
   obtain⟨q3,q4⟩:=bC.1 U;rw[bS q3,q4]
  have T: ∀(u v:List AV),((Z.take k).map pU++u::(A.drop (k+1)).map pU).set k v=(Z.take k).map pU++v::(A.drop (k+1)).map pU:=fun u v=>by
   have:=List.set_append_right (s:=(Z.take k).map pU) (t:=u::(A.drop (k+1)).map pU) k v (by rw[aE,dJ];omega);rw[this,show k-((Z.take k).map pU).length=0 by rw[aE,dJ];omega];rfl
  have R: ∀(u:List AV),((Z.take k).map pU++u::(A.drop (k+1)).map pU)[k]?=some u:=fun u=>by
   rw[gQ (by rw[aE,dJ];omega),show k-((Z.take k).map pU).length=0 by rw[aE,dJ];omega];rfl
  have hR:(Z.take k++A.drop k).map pU=(Z.take k).map pU++[.int .i64 (x:Int)]::(A.drop (k+1)).map pU:=by rw[b0,cK,cP];rfl
  have hn:(Z.take (k+1)++A.drop (k+1)).map pU=(Z.take k).map pU++[.int .i64 ((oP op x y:Nat):Int)]::(A.drop (k+1)).map pU:=by rw[b6,cK,cK,bQ];rfl
  rw[hR]at f;have Q:=R [.int .i64 (x:Int)];have a4:=R [.int .i64 0];have a8:=T [.int .i64 (x:Int)] [.int .i64 0];have a9:=T [.int .i64 0] [.int .i64 1];generalize(Z.take k).map pU=ZT at *;generalize(A.drop (k+1)).map pU=AT at *;have L:(k:Int)<32:=by omega
  clear T R hR;have P:oP op x y=if(x+y=2∧op≠11)∨(x+y=1∧op≠9)then 1 else 0:=rfl
  obtain⟨s,hs⟩: ∃s,s=x+y:=⟨_,rfl⟩;have W:IntKind.wrap .i64 ((x:Int)+(y:Int))=(s:Int):=by rw[aT _ (by omega)];omega
  rw[←hs]at P;generalize oP op x y=w at *;have b5:s=0∨s=1∨s=2:=by omega
  clear hs;by_cases J:op=9<;>by_cases I:op=11<;>rcases b5 with rfl|rfl|rfl
  all_goals
   refine aL ?_;simp only[RR];refine aI ?_;refine aN ?_;refine aC fun K c=>?_;refine bF (fun x=>x≠i) [(0,3),(1,3),(2,3),(3,1),(4,3),(5,3),(6,3),(7,1),(8,3),(9,3)] [] eP (by kernel_rfl) rfl rfl ?_;simp only[eM,e,D,g,f,S,Q,L,W,RR,seval];apply c;clear c K;refine aA fun K c=>?_;simp only[e,g,f,Q,a8,L,RR,seval];apply c;clear c K;refine aA fun K c=>?_;simp only[C,J,I,RR,seval]
   repeat' ((refine cQ (fun h=>?_) (fun h=>?_))<;>simp only[h,C,j,e,D,g,f,aE,a6,S,Q,a4,a8,a9,L,W,J,I,RR,seval])
   all_goals
    apply c;clear c K;refine aX ?_ ?_<;>intro a3
    ·try (cases a3;done)
     all_goals
      refine aG ?_;simp only[e,g,a4,a9,L,RR,seval];refine aG ?_;simp only[g,RR,seval];rw[aT _ (by omega)];refine a0 _ _ F ⟨by rfl, ?_⟩ (by repeat (first|exact V|refine bB.upd rfl ?_));rw[hn,P]
      first|subst J|subst I|skip
      simp_all [upd]
    try (cases a3;done)
    all_goals
     refine aL ?_;simp only[RR];refine aG ?_;simp only[g,RR,seval];rw[aT _ (by omega)];refine a0 _ _ F ⟨by rfl, ?_⟩ (by repeat (first|exact V|refine bB.upd rfl ?_));rw[hn,P]
     first|subst J|subst I|skip
     simp_all [upd]
 have b3:k=32:=by have:=aH G;omega
 clear G;rw[b3,rP (Nat.le_of_eq a7),List.drop_of_length_le (Nat.le_of_eq H),dO]at f;have b4:(Z.map pU).length=32:=by rw[aE,a7]
 refine cC ?_;simp only[RR,seval];refine bT fun F4 M4 d p=>?_;have l:=d 6;have n:=d 7;have o:=p i;simp only[j,e,f,RR,seval]at l n o;have j:=l;clear l;have e:=n;clear n;have f:=o;clear o;clear d p;refine xO f ?_;refine bT fun F5 M5 d p=>?_;have l:=d 6;have n:=d 7;simp only[Ro,MG,and_self,b4,j,e,seval]at l n;have j:=l;clear l;have e:=n;clear n;clear d p;refine aA fun K c=>?_;simp only[e,RR,seval];refine aP (hO) ?_;simp only[RR,seval];apply c;clear c K;refine aO ?_;simp only[aY,aK,bR,RR,seval];refine aZ.pure ?_;rfl
theorem KG (n:Int):IntKind.wrap .u32 n=n % 4294967296:=by simp [IntKind.wrap,IntKind.signed,IntKind.bits]
theorem EJ (x y:Nat) (a:y<4294967296):((x:Int)-y) % 4294967296=(((x+4294967296 -y) % 4294967296:Nat):Int):=by omega
theorem HG (a b:Nat) (E:a<4294967296) (P:b<4294967296):eH dN 200 [.int .i64 12, .int .u32 (a:Int), .int .u32 (b:Int)] (.int .u32 (if 31<(b:Int)then 0 else IntKind.wrap .u32 ((a:Int) *2^(min ((b:Int)).toNat 32)))):=by
 by_cases h:31<(b:Int)
 ·rw[bP h]
  have z:(32:Int)≤(b:Int):=by omega
  refine bX 27 [.tmp 6] func200 ?_;refine aA fun K c=>?_;simp only[RR,seval];refine c _ _ (aI (aA fun K c=>?_));simp only[z,RR,seval];refine c _ _ (cL (aA fun K c=>?_));simp only[RR,seval];apply c;refine aO ?_;simp only[aY,aK,bR,RR,seval];refine aZ.pure ?_;rfl
 rw[aM h];have z: ¬(32:Int)≤(b:Int):=by omega
 have H:IntKind.wrap .u32 ((a:Int) *2^(min ((b:Int)).toNat 32))=((a *2^b % 4294967296:Nat):Int):=by
  rw[dU,Nat.min_eq_left (by omega)];rw[KG,Int.natCast_emod,Int.natCast_mul,Int.natCast_pow];rfl
 rw[H];have v:=G4 a (by omega);refine bX 27 [.tmp 6] func200 ?_;refine aA fun K c=>?_;simp only[RR,seval];refine c _ _ (aI (aA fun K c=>?_));simp only[z,RR,seval];refine c _ _ (bN ?_);refine aL ?_;simp only[RR];refine aA fun K c=>?_;simp only[v,RR,seval];refine c _ _ (aI (aA fun K c=>?_));simp only[RR,seval];refine c _ _ (bT fun I L f O=>?_);have i:=f 0;have k:=f 2;have l:=f 6;have d:=f 7;have e:=f 8;simp only[RR,seval]at i k l d e;refine aN (iP [0,2,6] (b) (fun m o M=>m≤b∧o 8= .int .u32 ((b-m:Nat):Int)∧o 7= .int .u64 ((a *2^(b-m) % 4294967296:Nat):Int)) ⟨bE _,(by rw[e,Nat.sub_self];rfl),(by rw[d,Nat.sub_self,Nat.pow_zero,mP,Nat.mod_eq_of_lt E])⟩ ?_);rintro m t N ⟨Q,e,d⟩ g J D;have i:=(g 0 rfl).trans i;have k:=(g 2 rfl).trans k;have l:=(g 6 rfl).trans l;have u:=bB.refl [0,2,6] t;clear g;refine aI (aA fun K c=>?_);simp only[k,e,RR,seval];refine c _ _ (aX ?_ ?_)<;>intro p
 ·have n:=p
  obtain⟨j,rfl⟩: ∃j,m=j+1:=⟨m- 1,by have:=aF n;omega⟩
  have G:a *2^(b-j) % 4294967296=2 *(a *2^(b-(j+1)) % 4294967296) % 4294967296:=by
   rw[show b-j=b-(j+1)+1 by omega,lZ,←Nat.mul_assoc];omega
  have R:a *2^(b-(j+1)) % 4294967296<4294967296:=rN _ (by decide);generalize a *2^(b-(j+1)) % 4294967296=x at *;have y:IntKind.wrap .u64 (2 *(x:Int))=((2 *x:Nat):Int):=by rw[show 2 *(x:Int)=((2 *x:Nat):Int)by omega,G4 _ (by omega)]
  have A:((2 *x:Nat):Int).tmod 4294967296=((2 *x % 4294967296:Nat):Int):=pL _ _;have B:IntKind.wrap .u32 (((b-(j+1):Nat):Int)+1)=((b-j:Nat):Int):=by rw[show((b-(j+1):Nat):Int)+1=((b-j:Nat):Int)by omega,Ze _ (by omega)]
  refine aL ?_;simp only[RR];refine aI (aN (aA fun K c=>?_));simp only[i,RR,seval];refine c _ _ (cL (aG ?_));simp only[d,y,A,RR,seval];refine aG ?_;simp only[e,B,RR,seval];refine D (j) _ _ (by omega) ⟨(by omega),rfl,(by rw[G];rfl)⟩ (by repeat (first|exact u|refine bB.upd rfl ?_))
 have n:=p;have F:m=0:=by have:=aH n;omega
 subst F;rw[Nat.sub_zero]at d;have C:=Ze _ (show a *2^b % 4294967296<4294967296 from rN _ (by decide));refine cC ?_;simp only[RR,seval];refine aA fun K c=>?_;simp only[d,C,RR,seval];apply c;refine aO ?_;simp only[aY,aK,bR,RR,seval];refine aZ.pure ?_;rfl
theorem HF (a b:Nat) (D:a<4294967296) (O:b<4294967296):eH dN 200 [.int .i64 13, .int .u32 (a:Int), .int .u32 (b:Int)] (.int .u32 (if 31<(b:Int)then 0 else((a:Int)).fdiv (2^(min ((b:Int)).toNat 32)))):=by
 by_cases h:31<(b:Int)
 ·rw[bP h]
  have z:(32:Int)≤(b:Int):=by omega
  refine bX 27 [.tmp 6] func200 ?_;refine aA fun K c=>?_;simp only[RR,seval];refine c _ _ (aI (aA fun K c=>?_));simp only[z,RR,seval];refine c _ _ (cL (aA fun K c=>?_));simp only[RR,seval];apply c;refine aO ?_;simp only[aY,aK,bR,RR,seval];refine aZ.pure ?_;rfl
 rw[aM h];have z: ¬(32:Int)≤(b:Int):=by omega
 have G:((a:Int)).fdiv (2^(min ((b:Int)).toNat 32))=((a/2^b:Nat):Int):=by
  rw[dU,Nat.min_eq_left (by omega),oI _ (Int.pow_nonneg (by decide))];rw[Int.natCast_ediv,Int.natCast_pow];rfl
 rw[G];have v:=G4 a (by omega);refine bX 27 [.tmp 6] func200 ?_;refine aA fun K c=>?_;simp only[RR,seval];refine c _ _ (aI (aA fun K c=>?_));simp only[z,RR,seval];refine c _ _ (bN ?_);refine aL ?_;simp only[RR];refine aA fun K c=>?_;simp only[v,RR,seval];refine c _ _ (aI (aA fun K c=>?_));simp only[RR,seval];refine c _ _ (bT fun H J f N=>?_);have i:=f 0;have k:=f 2;have l:=f 6;have d:=f 7;have e:=f 8;simp only[RR,seval]at i k l d e;refine aN (iP [0,2,6] (b) (fun m o M=>m≤b∧o 8= .int .u32 ((b-m:Nat):Int)∧o 7= .int .u64 ((a/2^(b-m):Nat):Int)) ⟨bE _,(by rw[e,Nat.sub_self];rfl),(by rw[d,Nat.sub_self,Nat.pow_zero,Nat.div_one])⟩ ?_);rintro m t L ⟨P,e,d⟩ g I C;have i:=(g 0 rfl).trans i;have k:=(g 2 rfl).trans k;have l:=(g 6 rfl).trans l;have u:=bB.refl [0,2,6] t;clear g;refine aI (aA fun K c=>?_);simp only[k,e,RR,seval];refine c _ _ (aX ?_ ?_)<;>intro p
 ·have n:=p
  obtain⟨j,rfl⟩: ∃j,m=j+1:=⟨m- 1,by have:=aF n;omega⟩
  have F:a/2^(b-j)=a/2^(b-(j+1))/2:=by
   rw[show b-j=b-(j+1)+1 by omega,lZ,VF]
  have Q:a/2^(b-(j+1))≤a:=VR _ _;generalize a/2^(b-(j+1))=x at *;have y:IntKind.wrap .u64 (((x:Int)).tdiv 2)=((x/2:Nat):Int):=by rw[show((x:Int)).tdiv 2=((x/2:Nat):Int)from yS x 2,G4 _ (by omega)]
  have A:IntKind.wrap .u32 (((b-(j+1):Nat):Int)+1)=((b-j:Nat):Int):=by rw[show((b-(j+1):Nat):Int)+1=((b-j:Nat):Int)by omega,Ze _ (by omega)]
  refine aL ?_;simp only[RR];refine aI (aN (aA fun K c=>?_));simp only[i,RR,seval];refine c _ _ (bN (aG ?_));simp only[d,y,RR,seval];refine aG ?_;simp only[e,A,RR,seval];refine C (j) _ _ (by omega) ⟨(by omega),rfl,(by rw[F];rfl)⟩ (by repeat (first|exact u|refine bB.upd rfl ?_))
 have n:=p;have E:m=0:=by have:=aH n;omega
 subst E;rw[Nat.sub_zero]at d;have B:=Ze (a/2^b) (Nat.lt_of_le_of_lt (VR _ _) D);refine cC ?_;simp only[RR,seval];refine aA fun K c=>?_;simp only[d,B,RR,seval];apply c;refine aO ?_;simp only[aY,aK,bR,RR,seval];refine aZ.pure ?_;rfl
theorem G0 (op:Int) {a b:Int} (t:eB a) (u:eB b):eH dN 160 [.int .i64 op, .int .u32 a, .int .u32 b] (.tup [.int .u32 (eX op a b).1, .int .i64 (eX op a b).2]):=by
 obtain⟨x,rfl⟩:=iM t.1;obtain⟨y,rfl⟩:=iM u.1;have l:x<4294967296:=by have:=t.2;omega
 have j:y<4294967296:=by have:=u.2;omega
 have g:=G4 x (by omega);have k:=G4 y (by omega);by_cases h:op=4∨op=5∨op=6∨op=7∨op=8∨op=9∨op=10∨op=11∨op=12∨op=13∨op=14∨op=15
 ·have p:=V2 op x y l j
  have X:=HG x y l j;have Y:=HF x y l j;have v:=fun c=>IB c;have s4:IntKind.wrap .u64 ((x:Int)+(y:Int))=((x+y:Nat):Int):=by rw[show(x:Int)+(y:Int)=((x+y:Nat):Int)by omega,G4 _ (by omega)]
  have r4:((x+y:Nat):Int).tmod 4294967296=(((x+y) % 4294967296:Nat):Int):=pL _ _;have t4:=Ze ((x+y) % 4294967296) (rN _ (by decide));have u5:IntKind.wrap .u64 ((x:Int)+4294967296)=((x+4294967296:Nat):Int):=by rw[show(x:Int)+4294967296=((x+4294967296:Nat):Int)by omega,G4 _ (by omega)]
  have s5:IntKind.wrap .u64 (((x+4294967296:Nat):Int)-(y:Int))=((x+4294967296 -y:Nat):Int):=by rw[show((x+4294967296:Nat):Int)-(y:Int)=((x+4294967296 -y:Nat):Int)by omega,G4 _ (by omega)]
  have r5:((x+4294967296 -y:Nat):Int).tmod 4294967296=(((x+4294967296 -y) % 4294967296:Nat):Int):=pL _ _;have t5:=Ze ((x+4294967296 -y) % 4294967296) (rN _ (by decide))
  have Z:x *y<18446744073709551616:=by
   have h1:x *y≤4294967295 *4294967295:=Nat.mul_le_mul (by omega) (by omega);omega
  have s6:IntKind.wrap .u64 ((x:Int) *(y:Int))=((x *y:Nat):Int):=by rw[show(x:Int) *(y:Int)=((x *y:Nat):Int)by rw[Int.natCast_mul],G4 _ Z]
  have r6:((x *y:Nat):Int).tmod 4294967296=(((x *y) % 4294967296:Nat):Int):=pL _ _;have t6:=Ze ((x *y) % 4294967296) (rN _ (by decide));have a0:x/y≤x:=VR _ _;have s7:IntKind.wrap .u64 (((x:Int)).tdiv (y:Int))=((x/y:Nat):Int):=by rw[yS,G4 _ (by omega)]
  have M:=Ze (x/y) (by omega);have a1:x % y≤x:=Nat.mod_le _ _;have s8:((x:Int)).tmod (y:Int)=((x % y:Nat):Int):=pL x y;have t8:=Ze (x % y) (by omega);have N:y=0∨ ∃q,(y:Int)≠0∧q=y:=by by_cases h:y=0;exact .inl h;exact .inr ⟨y,by omega,rfl⟩
  have S:eX 4 x y=((((x+y) % 4294967296:Nat):Int),0):=by
   show(IntKind.wrap .u32 ((x:Int)+y),(0:Int))=_;rw[KG,show((x:Int)+y) % 4294967296=(((x+y) % 4294967296:Nat):Int)from(Int.natCast_emod (x+y) 4294967296).symm]
  have T:eX 5 x y=((((x+4294967296 -y) % 4294967296:Nat):Int),0):=by
   show(IntKind.wrap .u32 ((x:Int)-y),(0:Int))=_;rw[KG,EJ x y j]
  have U:eX 6 x y=((((x *y) % 4294967296:Nat):Int),0):=by
   show(IntKind.wrap .u32 ((x:Int) *y),(0:Int))=_;rw[KG,show((x:Int) *y) % 4294967296=(((x *y) % 4294967296:Nat):Int)from by rw[←Int.natCast_mul];omega]
  have V:(y:Int)≠0→eX 7 x y=(((x/y:Nat):Int),0):=fun h=>by
   show(if(y:Int)=0 then((0:Int),(14:Int))else(IntKind.wrap .u32 (((x:Int)).tdiv (y:Int)),0))=_;rw[aM h,yS,M]
  have W:(y:Int)≠0→eX 8 x y=(((x % y:Nat):Int),0):=fun h=>by
   show(if(y:Int)=0 then((0:Int),(14:Int))else(((x:Int)).tmod (y:Int),0))=_;rw[aM h,pL]
  have n:op=9∨op=10∨op=11→eX op x y=(((xM op x y:Nat):Int),(0:Int)):=fun h=>Xh op h x y l j
  have O:eX 12 x y=(if 31<(y:Int)then 0 else IntKind.wrap .u32 ((x:Int) *2^(min ((y:Int)).toNat 32)),0):=by
   show(if 31<(y:Int)then((0:Int),(0:Int))else(IntKind.wrap .u32 ((x:Int) *2^(min ((y:Int)).toNat 32)),0))=_;by_cases h:31<(y:Int)<;>simp only[h,cT,dP]
  have P:eX 13 x y=(if 31<(y:Int)then 0 else((x:Int)).fdiv (2^(min ((y:Int)).toNat 32)),0):=by
   show(if 31<(y:Int)then((0:Int),(0:Int))else(((x:Int)).fdiv (2^(min ((y:Int)).toNat 32)),0))=_;by_cases h:31<(y:Int)<;>simp only[h,cT,dP]
  have Q:eX 14 x y=(if decide ((x:Int)<(y:Int))=true then 1 else 0,0):=by simp [eX]
  have R:eX 15 x y=(if decide ((x:Int)=(y:Int))=true then 1 else 0,0):=by simp [eX]
  rcases h with rfl|rfl|rfl|rfl|rfl|rfl|rfl|rfl|rfl|rfl|rfl|rfl
  all_goals first|rw[S]|rw[T]|rw[U]|(rw[n (.inl rfl)];have f:=p)|(rw[n (.inr (.inl rfl))];have f:=p)|(rw[n (.inr (.inr rfl))];have f:=p)|(rw[O];have f:=X)|(rw[P];have f:=Y)|(rw[Q];have f:=v (decide ((x:Int)<(y:Int))))|(rw[R];have f:=v (decide ((x:Int)=(y:Int))))|skip
  case inr.inr.inr.inl=>
   rcases N with rfl|⟨_,i,_⟩
   ·rw[show eX 7 x ((0:Nat):Int)=(0,14)from rfl]
    refine bX 80 [.tmp 6, .tmp 7] func160 ?_
    repeat' (first|(refine aC fun K d=>?_;refine aG ?_;simp only[g,RR,seval];apply d;clear d K)|(refine aI ?_)|(refine aN ?_)|(refine cL ?_)|(refine bN ?_)|(refine aO ?_;simp only[bL,cG,aY,aK,bR,RR,seval];refine aZ.pure ?_))
    all_goals rfl
   rw[V i];have o: ¬(y:Int)=0:=i;refine bX 80 [.tmp 6, .tmp 7] func160 ?_
   repeat' (first|(refine aC fun K d=>?_;refine aG ?_;simp only[g,k,s7,M,o,RR,seval];apply d;clear d K)|(refine aI ?_)|(refine aN ?_)|(refine cL ?_)|(refine bN ?_)|(refine aL ?_;simp only[bL])|(refine aO ?_;simp only[bL,cG,aY,aK,bR,RR,seval];refine aZ.pure ?_))
   all_goals rfl
  case inr.inr.inr.inr.inl=>
   rcases N with rfl|⟨_,i,_⟩
   ·rw[show eX 8 x ((0:Nat):Int)=(0,14)from rfl]
    refine bX 80 [.tmp 6, .tmp 7] func160 ?_
    repeat' (first|(refine aC fun K d=>?_;refine aG ?_;simp only[g,RR,seval];apply d;clear d K)|(refine aI ?_)|(refine aN ?_)|(refine cL ?_)|(refine bN ?_)|(refine aO ?_;simp only[bL,cG,aY,aK,bR,RR,seval];refine aZ.pure ?_))
    all_goals rfl
   rw[W i];have o: ¬(y:Int)=0:=i;refine bX 80 [.tmp 6, .tmp 7] func160 ?_
   repeat' (first|(refine aC fun K d=>?_;refine aG ?_;simp only[g,k,s8,t8,o,RR,seval];apply d;clear d K)|(refine aI ?_)|(refine aN ?_)|(refine cL ?_)|(refine bN ?_)|(refine aL ?_;simp only[bL])|(refine aO ?_;simp only[bL,cG,aY,aK,bR,RR,seval];refine aZ.pure ?_))
   all_goals rfl
  all_goals
   refine bX 80 [.tmp 6, .tmp 7] func160 ?_
   repeat' (first|(refine aC fun K d=>?_;refine aG ?_;simp only[g,k,s4,r4,t4,u5,s5,r5,t5,s6,r6,t6,RR,seval];apply d;clear d K)|(refine aI ?_)|(refine aN ?_)|(refine cL ?_)|(refine bN ?_)|(refine aL ?_;simp only[bL])|(refine aG ?_;simp only[bL,RR,seval])|(refine aO ?_;simp only[bL,cG,aY,aK,bR,RR,seval];refine aZ.pure ?_)|(refine aP (f) ?_;simp only[bL,RR,seval]))
   all_goals rfl
 have F: ¬op=4:=fun e=>h (by simp [e]);have G: ¬op=5:=fun e=>h (by simp [e]);have H: ¬op=6:=fun e=>h (by simp [e]);have I: ¬op=7:=fun e=>h (by simp [e]);have J: ¬op=8:=fun e=>h (by simp [e]);have L: ¬op=9:=fun e=>h (by simp [e]);have z: ¬op=10:=fun e=>h (by simp [e]);have A: ¬op=11:=fun e=>h (by simp [e]);have B: ¬op=12:=fun e=>h (by simp [e]);have C: ¬op=13:=fun e=>h (by simp [e]);have D: ¬op=14:=fun e=>h (by simp [e]);have E: ¬op=15:=fun e=>h (by simp [e]);have e:eX op x y=(0,1):=by simp [eX,F,G,H,I,J,L,z,A,B,C,D,E]
 rw[e];refine bX 80 [.tmp 6, .tmp 7] func160 ?_
 repeat' (first|(refine aC fun K d=>?_;refine aG ?_;simp only[g,k,F,G,H,I,J,L,z,B,D,E,RR,seval];apply d;clear d K)|(refine aI ?_)|(refine aN ?_)|(refine bN ?_)|(refine aL ?_;simp only[bL,cG])|(refine aG ?_;simp only[A,C,bL,RR,seval])|(refine aO ?_;simp only[aY,aK,bR,RR,seval];refine aZ.pure ?_))
 all_goals rfl
section
variable {W : List Int} {inp : dC} {r bm bc : Nat} {vo : AV} {s s' : Mc} {e en : Int} {H : Hp}
end
section
end
theorem P7 (s:dC) (n:Nat) (N:n≤1000000) (b a c d:UInt8) (I:s[n]?=some b) (J:s[n+1]?=some a) (L:s[n+2]?=some c) (M:s[n+3]?=some d):
  eH dN 47 [.str s, .int .i64 (n:Int)] (.int .u32 ((b.toNat:Int)+256 *(a.toNat:Int)+65536 *(c.toNat:Int)+16777216 *(d.toNat:Int))):=by
 have O:=b.toNat_lt;have P:=a.toNat_lt;have Q:=c.toNat_lt;have R:=d.toNat_lt;have j:(0:Int)≤(n:Int):=by omega
 have k:IntKind.wrap .i64 ((n:Int)+1)=((n+1:Nat):Int):=by rw[aT _ (by omega)];omega
 have l:IntKind.wrap .i64 ((n:Int)+2)=((n+2:Nat):Int):=by rw[aT _ (by omega)];omega
 have o:IntKind.wrap .i64 ((n:Int)+3)=((n+3:Nat):Int):=by rw[aT _ (by omega)];omega
 have B:(0:Int)≤((n+1:Nat):Int):=by omega
 have C:(0:Int)≤((n+2:Nat):Int):=by omega
 have D:(0:Int)≤((n+3:Nat):Int):=by omega
 have E:((n:Int)).toNat=n:=dU n;have F:(((n+1:Nat):Int)).toNat=n+1:=dU _;have G:(((n+2:Nat):Int)).toNat=n+2:=dU _;have H:(((n+3:Nat):Int)).toNat=n+3:=dU _;have v:IntKind.wrap .u32 (b.toNat:Int)=(b.toNat:Int):=gG _ (by omega);have y:IntKind.wrap .u32 (a.toNat:Int)=(a.toNat:Int):=gG _ (by omega);have z:IntKind.wrap .u32 (c.toNat:Int)=(c.toNat:Int):=gG _ (by omega);have A:IntKind.wrap .u32 (d.toNat:Int)=(d.toNat:Int):=gG _ (by omega);have f:IntKind.wrap .u32 (256 *(a.toNat:Int))=256 *(a.toNat:Int):=gG _ (by omega);have g:IntKind.wrap .u32 (65536 *(c.toNat:Int))=65536 *(c.toNat:Int):=gG _ (by omega);have i:IntKind.wrap .u32 (16777216 *(d.toNat:Int))=16777216 *(d.toNat:Int):=gG _ (by omega);have p:IntKind.wrap .u32 ((b.toNat:Int)+256 *(a.toNat:Int))=(b.toNat:Int)+256 *(a.toNat:Int):=gG _ (by omega);have t:IntKind.wrap .u32 ((b.toNat:Int)+256 *(a.toNat:Int)+65536 *(c.toNat:Int))=(b.toNat:Int)+256 *(a.toNat:Int)+65536 *(c.toNat:Int):=gG _ (by omega);have u:IntKind.wrap .u32 ((b.toNat:Int)+256 *(a.toNat:Int)+65536 *(c.toNat:Int)+16777216 *(d.toNat:Int))=(b.toNat:Int)+256 *(a.toNat:Int)+65536 *(c.toNat:Int)+16777216 *(d.toNat:Int):=gG _ (by omega);refine bX 30 [.tmp 4] func47 ?_;refine aA fun K e=>?_;simp only[RR,seval];refine e _ _ (aC fun K e=>?_);refine bF (fun x=>True) [(0,3),(1,3),(2,3),(3,3),(4,3),(5,3),(6,3),(7,3),(8,3),(9,3),(10,3),(11,3),(12,3),(13,3),(14,3),(15,3),(16,3),(17,3),(18,3),(19,3),(20,3),(21,3),(22,3),(23,3),(24,3),(25,3)] [] eP (by kernel_rfl) rfl rfl ?_;simp only[*,eM,j,k,l,o,B,C,D,v,y,z,A,f,g,i,p,t,u,RR,seval];apply e;refine aO ?_;simp only[aY,aK,bR,RR,seval];refine aZ.pure ?_;rfl
theorem Ah {L:List Int} {i:Nat} {x:Int} (h:L[i]?=some x) (a:eB x) (b:i≤100000):eH dN 47 [.str (uP L), .int .i64 ((4 *i:Nat):Int)] (.int .u32 x):=by
 have:=P7 (uP L) (4 *i) (by omega) _ _ _ _ (qJ h 0 (by decide)) (qJ h 1 (by decide)) (qJ h 2 (by decide)) (qJ h 3 (by decide));rw[Qk,Qk,Qk,Qk]at this
 have e:x % 256+256 *(x/256 % 256)+65536 *(x/65536 % 256)+16777216 *(x/16777216 % 256)=x:=by
  have:=a.1;have:=a.2;omega
 rwa [e]at this
theorem JZ (W:List Int) (hW:W.length≤16384) (c5: ∀w∈W,eB w):eH dN 23 [.str (uP ([1145390419,(W.length:Int),4224]++W))] (.tup [.agg [.isl 1 (W.map iH), .int .i64 4224], .int .i64 0]):=by
 have c2:eH dN 47 [.str (uP ([1145390419,(W.length:Int),4224]++W)), .int .i64 4] (.int .u32 (W.length:Int)):=Ah (i:=1) rfl ⟨by omega,by omega⟩ (by decide);have c3:eH dN 47 [.str (uP ([1145390419,(W.length:Int),4224]++W)), .int .i64 8] (.int .u32 4224):=Ah (i:=2) rfl ⟨by decide,by decide⟩ (by decide)
 have c4: ∀{k:Nat} {x:Int},W[k]?=some x→eH dN 47 [.str (uP ([1145390419,(W.length:Int),4224]++W)), .int .i64 ((12+4 *k:Nat):Int)] (.int .u32 x):=fun {k x} h=>by
  have hk:=(bC.1 h).1;have:=Ah (L:=[1145390419,(W.length:Int),4224]++W) (i:=3+k) (x:=x) (by rw[gQ (by show 3≤3+k;omega),show 3+k-[1145390419,(W.length:Int),4224].length=k by show 3+k- 3=k;omega];exact h) (c5 x (aW h)) (by omega);rwa [show 4 *(3+k)=12+4 *k by omega]at this
 have a8:(uP ([1145390419,(W.length:Int),4224]++W))[0]?=some 83:=qJ (i:=0) (x:=1145390419) rfl 0 (by decide);have a9:(uP ([1145390419,(W.length:Int),4224]++W))[1]?=some 69:=qJ (i:=0) (x:=1145390419) rfl 1 (by decide);have b0:(uP ([1145390419,(W.length:Int),4224]++W))[2]?=some 69:=qJ (i:=0) (x:=1145390419) rfl 2 (by decide);have b1:(uP ([1145390419,(W.length:Int),4224]++W))[3]?=some 68:=qJ (i:=0) (x:=1145390419) rfl 3 (by decide);have d7:(uP ([1145390419,(W.length:Int),4224]++W)).length=12+4 *W.length:=by rw[Fa,aB];simp only[aJ,aS];omega
 generalize uP ([1145390419,(W.length:Int),4224]++W)=s at *;have d0:decide ((s.length:Int)<12)=false:=bD (by omega);have d1:decide ((16384:Int)<(W.length:Int))=false:=bD (by omega);have X:IntKind.wrap .i64 (W.length:Int)=(W.length:Int):=aT _ (by omega);have d3:IntKind.wrap .i64 (4 *(W.length:Int))=4 *(W.length:Int):=aT _ (by omega);have d4:IntKind.wrap .i64 (12+4 *(W.length:Int))=12+4 *(W.length:Int):=aT _ (by omega);have d5:decide ((s.length:Int)=12+4 *(W.length:Int))=true:=cO (by omega);have d6:IntKind.wrap .i64 4224=4224:=rfl;have y0:(((83:UInt8).toNat:Nat):Int)=83:=rfl;have y1:(((69:UInt8).toNat:Nat):Int)=69:=rfl;have y2:(((68:UInt8).toNat:Nat):Int)=68:=rfl;refine bX 72 [.cell 2 36, .tmp 3] func23 ?_;refine aA fun K g=>?_;simp only[RR,seval];refine aQ fun t d8=>?_;simp only[RR,seval];refine g _ _ (aI (aA fun K g=>?_));simp only[d0,a8,a9,b0,b1,RR,seval];refine g _ _ (bN ?_);refine aL ?_;simp only[RR];refine aA fun K g=>?_;simp only[RR,seval];refine aP (c2) ?_;simp only[RR,seval];refine g _ _ (aA fun K g=>?_);simp only[RR,seval];refine aP (c3) ?_;simp only[RR,seval];refine g _ _ (aI (aA fun K g=>?_));simp only[d1,X,d3,d4,d5,RR,seval];refine g _ _ (bN ?_);refine aL ?_;simp only[RR];refine aA fun K g=>?_;simp only[d6,RR,seval];refine aQ fun u a2=>?_;have a5:u≠t:=fun e=>by rw[e]at a2;simp only[RR,seval,reduceCtorEq]at a2
 have S:=a5.symm;simp only[RR,seval];refine g _ _ (aI (aA fun K g=>?_));simp only[RR,seval];refine g _ _ (bT fun F1 M1 a j=>?_);have B:=a 0;have o:=a 2;have A:=a 3;have C:=a 4;have l:=a 6;have z:=a 7;have f:=j t;have d:=j u;simp only[S,RR,seval]at B o A C l z f d;refine aN (eT [0,2,3,4,6] (W.length) (fun k fr M=>fr 7= .int .i64 (k:Nat)∧M t=M1 t∧ ∃v,dW 1 v ((W.take k).map iH) M∧off v u∧M u=some (.rows 2 [[v, .int .i64 4224]])) ⟨z,rfl, .nsl, .inl ⟨rfl,rfl⟩,(fun s n e=>by cases e),d⟩ ?_);rintro k T M2 c8 ⟨Y,p,v,y,V,d⟩ J K0 a7;have B:=(J 0 rfl).trans B;have o:=(J 2 rfl).trans o;have A:=(J 3 rfl).trans A;have C:=(J 4 rfl).trans C;have l:=(J 6 rfl).trans l;have z:=Y;clear Y;have f:=p.trans f;have N:=bB.refl [0,2,3,4,6] T;have G:=p;clear J;refine aI (aA fun K g=>?_);simp only[C,z,X,RR,seval];refine g _ _ (aX ?_ ?_)<;>intro U
 ·have a1:k<W.length:=by have:=aF U;omega
  clear U;obtain⟨wd,a4⟩: ∃x,W[k]?=some x:=⟨_,aD a1⟩;have b7:=c4 a4;have e1:IntKind.wrap .i64 (4 *(k:Int))=4 *(k:Int):=aT _ (by omega);have e2:IntKind.wrap .i64 (12+4 *(k:Int))=((12+4 *k:Nat):Int):=by rw[aT _ (by omega)];omega
  have c1:(W.take (k+1)).map iH=(W.take k).map iH++[[.int .u32 wd]]:=by rw[List.take_add_one,a4,cK];rfl
  have c9:((W.take k).map iH).length=k:=by simp;omega
  refine aL ?_;simp only[RR];refine aI (aN (bT fun F3 M3 a j=>?_));have O:=a 0;have D:=a 2;have E:=a 3;have P:=a 4;have F:=a 6;have Q:=a 7;have p:=j t;have H:=j u;simp only[B,o,A,C,l,z,f,d,RR,seval]at O D E P F Q p H;have N:bB [0,2,3,4,6] T F3:=bB.same a (by repeat (first|exact N|refine bB.upd rfl ?_));have G:=(j t).trans G;have y:=y.same j;have B:=O;have o:=D;have A:=E;have C:=P;have l:=F;have z:=Q;have f:=p;have d:=H;refine bF (fun x=>x≠u∧x≠t) [(0,3),(1,0),(2,3),(3,3),(4,3),(5,3),(6,1),(7,2),(8,1),(9,3)] [(10,1)] eP (by kernel_rfl) rfl rfl ?_;simp only[eM,gL,B,l,z,d,a5,e1,e2,RR,seval];refine aP (b7) ?_;simp only[RR,seval];refine jA y (by simp only[aE,aJ,aS];(simp only[dJ];omega)) (fun b e=>by(repeat' apply And.intro)<;>(intro c;subst c;first|exact V _ _ e|exact y.nb' f (by decide) e)) fun c6 M4 R a0 b8=>?_;have a3:=b8 u V (by rw[d];exact bY _);simp only[l,RR,seval];have p:=a0 t _ f (by exact(y).nb' f (by decide));have G:=(p.trans f.symm).trans G;have f:=p;have H:=a0 u _ d (by exact(y).nb' d (by decide));have d:=H;have b5:=R.cells;have c0:=R.one1;simp only[b5,c0,cA,List.drop,d,RR,seval];refine bT fun F5 M5 a j=>?_;have O:=a 0;have D:=a 2;have E:=a 3;have P:=a 4;have F:=a 6;have Q:=a 7;have p:=j t;have d:=j u;simp only[B,o,A,C,l,z,f,S,RR,seval]at O D E P F Q p d;have N:bB [0,2,3,4,6] T F5:=bB.same a (by repeat (first|exact N|refine bB.upd rfl ?_));have G:=(j t).trans (by(simp only[S,aV,seval];exact G));have R:=(R.off a3 _).same j;have B:=O;have o:=D;have A:=E;have C:=P;have l:=F;have z:=Q;have f:=p;refine aG ?_;simp only[z,RR,seval];rw[aT _ (by omega)];refine a7 _ _ a1 ⟨by rfl,G,c6,(by rw[c1];exact R),a3,d⟩ (by repeat (first|exact N|refine bB.upd rfl ?_))
 have b9:k=W.length:=by have:=aH U;omega
 rw[b9,cZ]at y;refine cC ?_;simp only[RR,seval];refine bT fun F6 M6 a j=>?_;have D:=a 2;have E:=a 3;have F:=a 6;have p:=j t;have H:=j u;simp only[o,A,l,f,d,RR,seval]at D E F p H;have y:=y.same j;have o:=D;have A:=E;have l:=F;have f:=p;have d:=H;have h0:M6 u=some (.rows 2 [[]++v::[.int .i64 4224]]):=d;refine gW y h0 (fun x I=>by cases I) (fun x I=>by simp only[bA]at I;subst I;exact bU rfl) V fun c7 a6 Z b3 b4=>?_;have o:=(Z 2 (by rw[o];exact bU rfl)).trans o;have l:=(Z 6 (by rw[l];exact bU rfl)).trans l;have f:=b4 t _ _ S (y.offsz f (by decide)) (fun r hr x I=>by simp only[bA]at hr;subst hr;simp only[bK,bM,dB]at I;rcases I with rfl|rfl<;>exact bU rfl) f;have d:a6 u=some (.rows 2 [[.isl 1 (W.map iH), .int .i64 4224]]):=b3;refine aA fun K g=>?_;simp only[o,l,f,d,RR,seval];apply g;refine aO ?_;simp only[aY,aK,bR,o,RR,seval];refine aZ.pure ?_;rfl
theorem mG {q:Nat} {c:Int} {z:Zs} (h: ∀w∈vA (q:Int) c z,OS w):Kw q z [c]:=by
 unfold Kw;rw[gH];exact h
theorem RQ (q:Nat) (z:Zs):Kw q z []:=fun w a=>by cases a
theorem UX (n:Nat): ∀(q d:Nat),d≤200→n<4294967296→Kw q (zl d 0) (jG (Lib.decDigits n)):=by
 induction n using Nat.strongRecOn with
 |_ n ih=>
  intro q d hd f
  have one: ∀k:Nat,k<10→jG [UInt8.ofNat (48+k)]=[((48+k:Nat):Int)]:=fun k e=>by
   simp only[jG,cP,dD];rw[UInt8.toNat_ofNat',Nat.mod_eq_of_lt (by omega)]
  rw[Lib.decDigits];split
  ·rename_i h
   have z:=G3 (q:=(q:Int)) (c:=((48+n:Nat):Int)) (d:=(d:Int)) (s:=1880096768) (m:=0) (by omega) (by omega) (by omega);rw[one n h];refine mG ?_;rw[z.1];exact lK (by omega) (by omega) (oM (by decide) (by decide) (by decide))
  rename_i h;have a:n % 10<10:=rN _ (by decide);obtain⟨b,_⟩:=IR (W:=[]) (n/10) q d (by omega) (by omega);have z:=G3 (q:=((q+(jG (Lib.decDigits (n/10))).length:Nat):Int)) (c:=((48+n % 10:Nat):Int)) (d:=(d:Int)) (s:=1880096768) (m:=((n/10:Nat):Int)) (by omega) (by omega) (by omega);rw[lQ,one _ a];refine(ih (n/10) (by omega) q d hd (by omega)).app ?_;rw[b];refine mG ?_;rw[z.1];exact lK (by omega) (by omega) (oM (by decide) (by decide) (by decide))
section
variable {V : UInt8 → Prop} {A : Prop}
theorem RZ {i:Int} {e:Ex} (h:SX V A i e): ∀(q d:Nat),(d:Int)≤i→Kw q (zl d 0) (jG (gK e)):=by
 induction h with
 |num i n hl h=>
  intro q d hd;have f:gK (.mk 1 0 n [] [])=Lib.decDigits n.toNat++[32]:=by simp [gK,hY,iD]
  have l:n.toNat<4294967296:=by have:=h.1;have:=h.2;omega
  obtain⟨t,_⟩:=IR (W:=[]) n.toNat q d (by omega) l;rw[f,lQ];refine(UX n.toNat q d (by omega) l).app ?_;rw[t];show Kw _ _ [32];refine mG ?_;rw[(NK (by omega) (by omega)).1];intro w j;simp only[bK,bM,dB]at j;rcases j with rfl|rfl|rfl|rfl<;>exact vG (by decide) (by decide) (by decide) (by omega)
 |var i c hl h hV=>
  intro q d hd;have f:gK (.mk 2 0 0 [c] [])=[c]:=by simp [gK,hY,iD]
  have k:97≤c.toNat∧c.toNat≤122:=by simp only[Ll,aU,bO]at h;exact h
  rw[f];show Kw _ _ [(c.toNat:Int)];refine mG ?_;rw[(SL (by omega) (by omega)).1];exact lK (by omega) (by omega) (vG (by decide) (by decide) (by decide) (by omega))
 |idx i a hl hA ha ih=>
  intro q d hd;have f:gK (.mk 3 0 0 [116] [a])=gK a++[64]:=by rw[gK,sJ];simp [iD]
  rw[f,lQ];refine(ih q d (by omega)).app ?_;rw[pZ ha q d (by omega)];show Kw _ _ [64];refine mG ?_;rw[(SN (by omega)).1];intro w j;simp only[bK,bM,dB]at j;rcases j with rfl|rfl|rfl|rfl<;>exact vG (by decide) (by decide) (by decide) (by omega)
 |get i hl=>
  intro q d hd;have f:gK (.mk 5 0 0 [] [])=[63]:=by simp [gK,hY,iD]
  rw[f];show Kw _ _ [63];refine mG ?_;rw[(uK (A:=1997537280) (X:=hI 23 1 0 0) (g:=3) (by decide) (by decide) (by decide) (by decide) (by decide) (by decide) (by omega) (by omega)).1];exact lK (by omega) (by omega) (oM (by decide) (by decide) (by decide))
 |neg i a hl ha ih=>
  intro q d hd;have f:gK (.mk 7 0 0 [] [a])=gK a++[33]:=by rw[gK,sJ];simp [iD]
  rw[f,lQ];refine(ih q d (by omega)).app ?_;rw[pZ ha q d (by omega)];show Kw _ _ [33];refine mG ?_;rw[(uK (A:=1326579712) (X:=hI 15 1 2 0) (g:=2) (by decide) (by decide) (by decide) (by decide) (by decide) (by decide) (by omega) (by omega)).1];exact lK (by omega) (by omega) (oM (by decide) (by decide) (by decide))
 |op i o a b hl h ha hb iha ihb=>
  intro q d hd;obtain⟨c,k,p⟩:=SK h;have f:gK (.mk 6 o 0 [] [a,b])=gK a++(gK b++[c]):=by rw[gK,Zi];simp [iD,k]
  rw[f,lQ,lQ];refine(iha q d (by omega)).app ?_;rw[pZ ha q d (by omega)];refine(ihb _ (d+1) (by omega)).app ?_;rw[pZ hb _ (d+1) (by omega)];show Kw _ _ [(c.toNat:Int)];refine mG ?_;rw[(p (by omega)).1];exact lK (by omega) (by omega) (QG h)
theorem VI {N:Nat}: ∀{l:List Sm} {q d:Nat},(∀m∈l, ∀q,q+(nW m).length≤N→Kw q (zl d 0) (yN q m)∧(jN (yN q m) q (zl d 0)).1=zl (d:Int) 0∧(yN q m).length=(nW m).length)→q+(iS l).length≤N→Kw q (zl d 0) (uW q l)
 |[],q,_,_,_=>RQ q _
 |m::l,q,d,h,hq=>by
  rw[iS,aB]at hq;obtain⟨a,b,c⟩:=h m (dQ) q (by omega);rw[uW];refine a.app ?_;rw[b,c];exact VI (fun x e=>h x (fA _ e)) (by omega)
theorem XD {N:Nat} (k:N≤3000) {i:Int} {m:Sm} (h:SS V A i m): ∀(q d:Nat),(d:Int)+1≤i→q+(nW m).length≤N→Kw q (zl d 0) (yN q m):=by
 induction h with
 |set i c e hl hc hV he=>
  intro q d hd b;have n:97≤c.toNat∧c.toNat≤122:=by simp only[Ll,aU,bO]at hc;exact hc
  rw[GR];refine(RZ he q d (by omega)).app ?_;rw[pZ he q d (by omega)];refine Kw.app (mG ?_) ?_
  ·rw[(Z8 (by omega)).1]
   exact lK (by omega) (by omega) (oM (by decide) (by decide) (by decide))
  rw[gH 58,(Z8 (by omega)).2];refine mG ?_;rw[(SJ (by omega) (by omega)).1];exact lK (by omega) (by omega) (vG (by decide) (by decide) (by decide) (by omega))
 |store i a e hl hA ha he=>
  intro q d hd b;rw[GQ];refine(RZ ha q d (by omega)).app ?_;rw[pZ ha q d (by omega)];refine(RZ he _ (d+1) (by omega)).app ?_;rw[pZ he _ (d+1) (by omega)];refine mG ?_;rw[(Z7 (by omega)).1];intro w j;simp only[bK,bM,dB]at j;rcases j with rfl|rfl|rfl|rfl<;>exact vG (by decide) (by decide) (by decide) (by omega)
 |put i e hl he=>
  intro q d hd b;rw[GP];refine(RZ he q d (by omega)).app ?_;rw[pZ he q d (by omega)];refine mG ?_;rw[(uK (A:=941621248) (X:=hI 24 2 0 0) (g:=1) (by decide) (by decide) (by decide) (by decide) (by decide) (by decide) (by omega) (by omega)).1];exact lK (by omega) (by omega) (oM (by decide) (by decide) (by decide))
 |cond i e t hl he ht ih=>
  intro q d hd b;rw[EC]at b;simp only[aB,aJ,aS]at b;have l:=RX (N:=N) (q:=q+(gK e).length+1) (d:=d) (fun m f q b=>⟨RV k (ht m f) q d (by omega) b,nB (ht m f) q⟩) (by omega);have j:=VI (N:=N) (q:=q+(gK e).length+1) (d:=d) (fun m f q b=>⟨ih m f q d (by omega) b,RV k (ht m f) q d (by omega) b,nB (ht m f) q⟩) (by omega);rw[GO];refine(RZ he q d (by omega)).app ?_;rw[pZ he q d (by omega),kG];refine Kw.app (mG ?_) ?_
  ·rw[(P5 (by omega) (by omega)).1]
   exact lK (by omega) (by omega) (vG (by decide) (by decide) (by decide) (by omega))
  rw[gH,(P5 (by omega) (by omega)).2,show(((d+1:Nat):Int)- 1)=(d:Int)by omega];refine Kw.app j ?_;rw[show q+(gK e).length+[857735172+4 *((q+(gK e).length+1+(iS t).length:Nat):Int)].length=q+(gK e).length+1 from rfl,l];refine mG ?_;rw[(uK (A:=1125253120) (X:=hI 3 1 2 0) (g:=2) (by decide) (by decide) (by decide) (by decide) (by decide) (by decide) (by omega) (by omega)).1];exact lK (by omega) (by omega) (oM (by decide) (by decide) (by decide))
 |loop i e t hl he ht ih=>
  intro q d hd b;rw[EB]at b;simp only[aB,aJ,aS]at b;have l:=RX (N:=N) (q:=q+1+(gK e).length+1) (d:=d+1) (fun m f q b=>⟨RV k (ht m f) q (d+1) (by omega) b,nB (ht m f) q⟩) (by omega);have j:=VI (N:=N) (q:=q+1+(gK e).length+1) (d:=d+1) (fun m f q b=>⟨ih m f q (d+1) (by omega) b,RV k (ht m f) q (d+1) (by omega) b,nB (ht m f) q⟩) (by omega);rw[GN];refine Kw.app (mG ?_) ?_
  ·rw[(Z6 (by omega) (by omega)).1]
   exact lK (by omega) (by omega) (vG (by decide) (by decide) (by decide) (by omega))
  rw[gH,(Z6 (by omega) (by omega)).2];rw[show zl ((d:Int)+1) 0=zl ((d+1:Nat):Int) 0 from rfl,show q+[(87:Int)].length=q+1 from rfl];refine(RZ he (q+1) (d+1) (by omega)).app ?_;rw[pZ he (q+1) (d+1) (by omega),kG];refine Kw.app (mG ?_) ?_
  ·rw[(P5 (by omega) (by omega)).1]
   exact lK (by omega) (by omega) (vG (by decide) (by decide) (by decide) (by omega))
  rw[gH,(P5 (by omega) (by omega)).2,show(((d+1+1:Nat):Int)- 1)=((d+1:Nat):Int)by omega];refine Kw.app j ?_;rw[show q+1+(gK e).length+[857735172+4 *((q+1+(gK e).length+1+(iS t).length:Nat):Int)].length=q+1+(gK e).length+1 from rfl,l];refine mG ?_;rw[(uK (A:=908066816) (X:=hI 22 2 0 0) (g:=1) (by decide) (by decide) (by decide) (by decide) (by decide) (by decide) (by omega) (by omega)).1];exact lK (by omega) (by omega) (oM (by decide) (by decide) (by decide))
end
theorem Jy (n:Nat): ∀l:List Ex,pM l≤n→n≤1000000000000→eH dN 78 [.isl 5 (l.map Ex.row)] (.int .i64 ((pM l:Nat):Int)):=by
 induction n using Nat.strongRecOn with
 |_ n ih=>
  intro l S P;have H:=OW l;refine bX 22 [.tmp 2] func78 ?_;refine aA fun K c=>?_;simp only[RR,seval];refine c _ _ (aA fun K c=>?_);simp only[aE,RR,seval];refine c _ _ (aI (aA fun K c=>?_));simp only[RR,seval];refine c _ _ (bT fun I L i O=>?_);have g:=i 0;have p:=i 2;have d:=i 3;have f:=i 4;simp only[RR,seval]at g p d f;refine aN (eT [0,2] (l.length) (fun k v M=>v 4= .int .i64 (k:Nat)∧v 3= .int .i64 ((l.length+kE (l.take k):Nat):Int)) ⟨f,d⟩ ?_);rintro k y N R ⟨x,d⟩ o J A;have g:=(o 0 rfl).trans g;have p:=(o 2 rfl).trans p;have f:=x;clear x;have z:=bB.refl [0,2] y;clear o;refine aI (aA fun K c=>?_);simp only[g,f,aE,RR,seval];refine c _ _ (aX ?_ ?_)<;>intro t
  ·have j:k<l.length:=by have:=aF t;omega
   clear t;have B:=pR (aD j);have u:l.take (k+1)=l.take k++[l[k]]:=bS j;have F:=mK (bV j);have E:=L8 l (k+1);generalize l[k]=e at B u F;have Q:=e.sz_eq;rw[u,Rh]at E;have C:=ih (pM e.kids) (by omega) e.kids (bE _) (by omega);have G:=qG (a:=l.length+kE (l.take k)) (b:=pM e.kids) (by omega);refine aL ?_;simp only[RR];refine aI (aN (aG ?_));simp only[*,RR,seval];refine aP (C) ?_;simp only[G,RR,seval];refine aG ?_;simp only[f,RR,seval];rw[aT _ (by omega)];refine A _ _ j ⟨by rfl,by rw[u,Rh];(simp only[aV,seval];congr 1;omega)⟩ (by repeat (first|exact z|refine bB.upd rfl ?_))
  have D:k=l.length:=by have:=aH t;omega
  rw[D,cZ,←H]at d;refine cC ?_;simp only[RR,seval];refine aA fun K c=>?_;simp only[d,RR,seval];apply c;refine aO ?_;simp only[aY,aK,bR,RR,seval];refine aZ.pure ?_;rfl
theorem Jx (n:Nat): ∀l:List Sm,mQ l≤n→n≤1000000000000→eH dN 53 [.isl 5 (l.map Sm.row)] (.int .i64 ((mQ l:Nat):Int)):=by
 induction n using Nat.strongRecOn with
 |_ n ih=>
  intro l X U;have O:=OV l;refine bX 36 [.tmp 2] func53 ?_;refine aA fun K c=>?_;simp only[RR,seval];refine c _ _ (aA fun K c=>?_);simp only[aE,RR,seval];refine c _ _ (aI (aA fun K c=>?_));simp only[RR,seval];refine c _ _ (bT fun P R i T=>?_);have g:=i 0;have p:=i 2;have d:=i 3;have f:=i 4;simp only[RR,seval]at g p d f;refine aN (eT [0,2] (l.length) (fun k v M=>v 4= .int .i64 (k:Nat)∧v 3= .int .i64 ((l.length+kS (l.take k):Nat):Int)) ⟨f,d⟩ ?_);rintro k z S W ⟨y,d⟩ o Q B;have g:=(o 0 rfl).trans g;have p:=(o 2 rfl).trans p;have f:=y;clear y;have A:=bB.refl [0,2] z;clear o;refine aI (aA fun K c=>?_);simp only[g,f,aE,RR,seval];refine c _ _ (aX ?_ ?_)<;>intro t
  ·have j:k<l.length:=by have:=aF t;omega
   clear t;have C:=Hr (aD j);have u:l.take (k+1)=l.take k++[l[k]]:=bS j;have F:=lI (bV j);have E:=L2 l (k+1);generalize l[k]=e at C u F;have V:=e.sz_eq;rw[u,Rf]at E;have N:=Jy (pM e.es) e.es (bE _) (by omega);have G:=ih (mQ e.thn) (by omega) e.thn (bE _) (by omega);have H:=ih (mQ e.els) (by omega) e.els (bE _) (by omega);have I:=qG (a:=l.length+kS (l.take k)) (b:=pM e.es) (by omega);have J:=qG (a:=l.length+kS (l.take k)+pM e.es) (b:=mQ e.thn) (by omega);have L:=qG (a:=l.length+kS (l.take k)+pM e.es+mQ e.thn) (b:=mQ e.els) (by omega);refine aL ?_;simp only[RR];refine aI (aN (bF (fun x=>True) [(0,3),(1,3),(2,3),(3,3),(4,3),(5,1),(8,3),(9,3),(10,3),(11,3),(12,0),(15,3),(16,3),(17,3),(18,3),(19,0),(6,1),(7,3),(13,1),(14,3),(20,1),(21,3),(22,3)] [] eP (by kernel_rfl) rfl rfl ?_));simp only[*,eM,gL,pF,reduceCtorEq,false_implies,forall_const,true_and,RR,seval];refine aP (N) ?_;simp only[I,RR,seval];refine aP (G) ?_;simp only[J,RR,seval];refine aP (H) ?_;simp only[L,RR,seval];refine aG ?_;simp only[f,RR,seval];rw[aT _ (by omega)];refine B _ _ j ⟨by rfl,by rw[u,Rf];(simp only[aV,seval];congr 1;omega)⟩ (by repeat (first|exact A|refine bB.upd rfl ?_))
  have D:k=l.length:=by have:=aH t;omega
  rw[D,cZ,←O]at d;refine cC ?_;simp only[RR,seval];refine aA fun K c=>?_;simp only[d,RR,seval];apply c;refine aO ?_;simp only[aY,aK,bR,RR,seval];refine aZ.pure ?_;rfl
theorem JW (p:Pg) (hv:p.vars.length≤10000) (Z:p.arrs.length≤10000) (B:p.funs.length≤10000) (d: ∀f∈p.funs,D6 f≤10000000):eH dN 26 [p.av] (.int .i64 ((Gj p:Nat):Int)):=by
 have V:Gj p=p.vars.length+p.arrs.length+p.funs.length+xY p.funs:=rfl;generalize Gj p=a7 at *;have J:p.av= .agg p.row:=rfl;have Q:p.row=[.isl 1 (p.vars.map bH), .isl 2 (p.arrs.map Ar.row), .isl 5 (p.funs.map Fu.row)]:=rfl;rw[J,Q];have S:=qG (a:=p.vars.length) (b:=p.arrs.length) (by omega);have T:=qG (a:=p.vars.length+p.arrs.length) (b:=p.funs.length) (by omega);refine bX 49 [.tmp 2] func26 ?_;refine aA fun K c=>?_;simp only[RR,seval];refine aQ fun j a3=>?_;simp only[RR,seval];refine c _ _ (aA fun K c=>?_);simp only[aE,S,T,RR,seval];refine c _ _ (aI (aA fun K c=>?_));simp only[RR,seval];refine c _ _ (bT fun W E o H=>?_);have l:=o 1;have v:=o 2;have g:=o 3;have i:=o 4;have n:=H j;simp only[RR,seval]at l v g i n;refine aN (eT [1,2] (p.funs.length) (fun k y M=>y 4= .int .i64 (k:Nat)∧M j=E j∧y 3= .int .i64 ((p.vars.length+p.arrs.length+p.funs.length+xY (p.funs.take k):Nat):Int)) ⟨i,rfl,g⟩ ?_);rintro k D Y a2 ⟨z,A,g⟩ u X I;have l:=(u 1 rfl).trans l;have v:=(u 2 rfl).trans v;have i:=z;clear z;have n:=A.trans n;have F:=bB.refl [1,2] D;have G:=A;clear u;refine aI (aA fun K c=>?_);simp only[l,i,n,aE,RR,seval];refine c _ _ (aX ?_ ?_)<;>intro d
 ·have t:k<p.funs.length:=by have:=aF d;omega
  clear d;have N:=qH (aD t);have C:p.funs.take (k+1)=p.funs.take k++[p.funs[k]]:=bS t;have a6:=H9 10000000 (p.funs.take k) (fun f B=>d f (List.mem_of_mem_take B));have R:(p.funs.take k).length≤10000:=by rw[dJ];omega
  have L:=d _ (bV t);generalize p.funs[k]=e at N C L;have a1:D6 e=e.params.length+e.locs.length+mQ e.body:=rfl;have a0:(p.funs.take k).length *10000000≤10000 *10000000:=gE _ R;have U:=Jx (mQ e.body) e.body (bE _) (by omega);have a4:=qG (a:=p.vars.length+p.arrs.length+p.funs.length+xY (p.funs.take k)) (b:=e.params.length) (by omega);have a5:=qG (a:=p.vars.length+p.arrs.length+p.funs.length+xY (p.funs.take k)+e.params.length) (b:=e.locs.length) (by omega);have P:=qG (a:=p.vars.length+p.arrs.length+p.funs.length+xY (p.funs.take k)+e.params.length+e.locs.length) (b:=mQ e.body) (by omega);refine aL ?_;simp only[RR];refine aI (aN (bF (fun x=>x≠j) [(0,3),(1,3),(2,0),(3,3),(4,3),(5,3),(6,0),(7,3),(8,3),(9,3),(10,0),(11,3),(12,3),(13,3),(14,0),(15,3),(16,3),(17,3),(18,1),(19,3),(20,3),(21,3),(22,1),(23,1),(24,3),(25,3)] [] eP (by kernel_rfl) rfl rfl ?_));simp only[*,eM,gL,aE,RR,seval];refine aP (U) ?_;simp only[P,RR,seval];refine aG ?_;simp only[i,RR,seval];rw[aT _ (by omega)];refine I _ _ t ⟨by rfl,G,by rw[C,Nj];(simp only[aV,seval];congr 1;omega)⟩ (by repeat (first|exact F|refine bB.upd rfl ?_))
 have O:k=p.funs.length:=by have:=aH d;omega
 rw[O,cZ,←V]at g;refine cC ?_;simp only[RR,seval];refine aA fun K c=>?_;simp only[g,RR,seval];apply c;refine aO ?_;simp only[aY,aK,bR,RR,seval];refine aZ.pure ?_;rfl
section
open Go.Al Go.ChangeShapes Go.WideShapes
structure Yq (p:Pg):Prop where
 ok:p.ok
 fs: ∀f∈p.funs,f.params.length≤1100000∧f.locs.length≤1100000∧mQ f.body≤1000000
theorem Yq.few {p:Pg} (h:Yq p) (e:p.vars.length≤40) (d:p.arrs.length≤4) (b:fV p=true):p.few:=by
 simp only[fV,aU,bO,cD]at b;refine⟨h.ok,by omega,by omega,by omega,fun f a=>?_⟩;have:=h.fs f a;have c:=b.2 f a;simp only[kY,aU,bO]at c;omega
def zB {α:Type} (m:α→Nat):List α→Nat
 |[]=>0
 |a::l=>m a+zB m l
theorem Il {H:Type} (d:DataW H):1≤Rows.uptoBulk d:=by
 cases d with
 |lit l=>cases l<;>simp [Rows.uptoBulk]
 |nil=>simp [Rows.uptoBulk]
 |ptr d=>simp [Rows.uptoBulk]
 |slice elems spare=>simp [Rows.uptoBulk]
 |agg parts=>simp [Rows.uptoBulk]
 |iface t d=>simp [Rows.uptoBulk]
 |map entries=>simp [Rows.uptoBulk]
 |held h=>simp [Rows.uptoBulk]
theorem IW {H:Type} (l:List (DataW H)):l.length≤Rows.uptoBulkAll l:=by
 induction l with
 |nil=>simp [Rows.uptoBulkAll]
 |cons x r ih=>have:=Il x;simp only[Rows.uptoBulkAll,aJ];omega
section
variable {H : Type} {enc : TypeId × Value → H} {P : Program} {w : World} {sp : Nat → Bool} {held : Bool}
theorem EI {c f:Type} (m:c→Nat): ∀(l:List c) (E:List (DataW H×f)),l.length=E.length→(∀(i:Nat) a y,l[i]?=some a→E[i]?=some y→m a≤Rows.uptoBulk y.1)→zB m l≤Rows.uptoBulkAll (E.map (·.1))
 |[],_,_,_=>by simp [zB]
 |a::l,[],h,_=>by simp at h
 |a::l,y::E,h,hm=>by
  have g:=hm 0 a y rfl rfl;have j:=EI m l E (by simpa using h) fun i b z d e=>hm (i+1) b z (by simpa using d) (by simpa using e);simp only[zB,cP,Rows.uptoBulkAll];omega
theorem mV {f:Type} (m:f→Nat) {row:f→List AV} {ok:f→Prop} {t e:TypeId} {sz C:Nat} {cs:List Value} {x:DataW H×List MemPlace} (ht:P.underlying t=some (.slice e)) (W:P.cellsOf e=sz) (hz:0<sz)
  (a3: ∀a,(row a).length=sz) (h:DataW.trod enc P w 0 sp held C t cs=some x)
  (U: ∀n cs y,n<C→DataW.trod enc P w 0 sp held n e cs=some y→ ∃a:f,ok a∧cU (old w) w (row a) cs∧m a≤Rows.uptoBulk y.1):
  ∃l:List f,eV l∧(∀a∈l,ok a)∧(zB m l+1≤Rows.uptoBulk x.1∧l.length+1≤Rows.uptoBulk x.1)∧ ∃v,cs=[v]∧bZ (old w) w (.isl sz (l.map row)) v:=by
 rcases DataW.trod_slice ht h with⟨rfl,rfl⟩|⟨a,len,Q,z,b2,n,rfl,rfl,rfl,_,hl,G,a9,Z,_,_⟩
 ·refine⟨[],by simp [eV],by simp,⟨by simp [zB,Rows.uptoBulk],by simp [Rows.uptoBulk]⟩,_,rfl, ?_⟩
  simp only[bZ,dD];exact⟨none,0,rfl,bE _,by simp [maxLen], .inl trivial⟩
 have a6: ∀i,i<len→ ∃b:f,ok b∧(∀y,z[i]?=some y→m b≤Rows.uptoBulk y.1)∧ ∃d:List Value,d.length=sz∧cU (old w) w (row b) d∧ ∀j,j<sz→w.cell? ((a.add (i *sz)).add j)=d[j]?:=by
  intro i a1;have g:=Z i a1;rw[W,aD (by omega),cH]at g;obtain⟨d,Y,hy⟩:=g;obtain⟨_,B,V⟩:=World.cells?_some Y;obtain⟨b,k,p,a5⟩:=U n d _ (by omega) hy;exact⟨b,k,(fun y L=>by rw[aD (by omega)]at L;cases L;exact a5),d,B,p,V⟩
 obtain⟨l,F,o⟩:=tU len a6;refine⟨l,by simp only[eV,F];simp only[maxLen]at G;omega,fun b k=>?_,⟨?_, ?_⟩,_,rfl, ?_⟩
 ·obtain⟨i,a0⟩:=gF k
  exact(o i b a0).1
 ·have b1:=EI m l z (by omega) fun i a y g A=>(o i a g).2.1 y A
  simp only[Rows.uptoBulk];omega
 ·have a4:=IW (z.map (·.1))
  rw[aE]at a4;simp only[Rows.uptoBulk];omega
 simp only[bZ,aE,List.map_eq_nil_iff];refine⟨some a,Q,by rw[F],by omega,G, ?_⟩;by_cases I:l=[]
 ·exact .inl I
 right;obtain⟨u,M,rfl⟩: ∃u M,l=u::M:=by cases l with |nil=>exact absurd rfl I|cons b l=>exact⟨b,l,rfl⟩
 obtain⟨_,_,d,a8,_,X⟩:=o 0 u rfl;have c:=X 0 hz;rw[aD (by omega)]at c;simp only[Nat.zero_mul,Addr.add,cT]at c
 have K:a.spot=none:=by
  unfold World.cell? at c;split at c
  ·split at c
   ·cases c
   rename_i J;cases hh:a.spot with |none=>rfl|some y=>rw[hh]at J;simp at J
  cases c
 have D:a.block<w.heap.size:=by
  unfold World.cell? at c;split at c
  ·rename_i e;exact(eJ.1 e).1
  cases c
 obtain⟨N,O,a7⟩:=a;simp only at K D;subst K;refine⟨N,O,rfl,D,cX.of_get fun i r p=>?_⟩;rw[dH,bI]at p;obtain⟨b,k,rfl⟩:=p;obtain⟨_,_,d,g,A,B⟩:=o i b k;refine⟨a3 b,eQ.of_vals A fun j v E=>?_⟩;have a2:j<sz:=by have:=(bC.1 E).1;omega
 rw[←E,←B j a2];congr 1;simp only[Addr.add];by_cases R:i *sz=0<;>by_cases S:j=0<;>simp [R,S]
theorem rS {t:TypeId} {d:List (TypeId×Nat)} {g:Nat} {cs:List Value} {x:DataW H×List MemPlace} (b:nK P t=some d) (h:DataW.trod enc P w 0 sp held g t cs=some x):
  ∃(a:List (DataW H×List MemPlace)) (n:Nat),g=n+1∧cs.length=P.cellsOf t∧x.1= .agg (a.map (·.1))∧a.length=d.length∧ ∀(i:Nat) c off,d[i]?=some (c,off)→DataW.trod enc P w 0 sp held n c ((cs.drop off).take (P.cellsOf c))=a[i]?:=by
 unfold nK at b;split at b
 ·rename_i A z
  cases b;obtain⟨a,n,l,o,p,u,v⟩:=DataW.trod_struct z h;refine⟨a,n,l,p,by rw[o],by rw[u];simp,fun i c off k=>?_⟩;rw[dH,bI]at k;obtain⟨f,y,e⟩:=k;simp only[Prod.mk.injEq]at e;have j:=v i f (by simpa using y);rw[e.1,e.2]at j;exact j
 cases b
theorem IX {a b c d e:DataW H×List MemPlace}:Rows.uptoBulk (.agg ([a,b,c,d,e].map (·.1)))=Rows.uptoBulk a.1+(Rows.uptoBulk b.1+(Rows.uptoBulk c.1+(Rows.uptoBulk d.1+Rows.uptoBulk e.1)))+1:=by
 simp [Rows.uptoBulk,Rows.uptoBulkAll]
theorem GT {f:Type} {xs:List f} (h:xs.length=5): ∃a b c d e,xs=[a,b,c,d,e]:=by
 match xs,h with
 |[a,b,c,d,e],_=>exact⟨a,b,c,d,e,rfl⟩
theorem UH {d:Type} {xs:List d} (h:xs.length=3): ∃a b c,xs=[a,b,c]:=by
 match xs,h with
 |[a,b,c],_=>exact⟨a,b,c,rfl⟩
end
theorem GK: ∀l:List Ex,zB (fun e=>2 *e.sz) l=2 *pM l
 |[]=>rfl
 |e::l=>by simp only[zB,pM,GK l];omega
theorem GI: ∀l:List Sm,zB (fun e=>2 *e.sz) l=2 *mQ l
 |[]=>rfl
 |e::l=>by simp only[zB,mQ,GI l];omega
def mF (f:Fu):Nat:=f.params.length+f.locs.length+2 *mQ f.body
theorem OT {f:Fu}: ∀{l:List Fu},f∈l→mF f≤zB mF l
 |x::l,h=>by
  rcases bK.1 h with rfl|h
  ·simp only[zB];omega
  have:=OT h;simp only[zB];omega
section
variable {H : Type} {enc : TypeId × Value → H} {P : Program} {w : World} {sp : Nat → Bool} {held : Bool} (T : VQ P)
theorem Ft {a:Nat} {cs:List Value} {x:DataW H×List MemPlace} (h:DataW.trod enc P w 0 sp held a T.strs cs=some x): ∃l:List dC,QH l∧l.length+1≤Rows.uptoBulk x.1∧ ∃v,cs=[v]∧bZ (old w) w (strs l) v:=by
 obtain⟨l,b,c,⟨_,e⟩,d⟩:=mV (fun _=>0) (row:=bH) (ok:=eV) T.uStrs (T.one1 (by simp)) (by decide) (fun _=>rfl) h fun n cs y _ g=>by
  obtain⟨s,rfl,f⟩:=sM T.uStr g;exact⟨s,f,I0 s,cM _⟩
 exact⟨l,⟨b,c⟩,e,d⟩
theorem II: ∀(g:Nat) (i:List Value) (x:DataW H×List MemPlace),DataW.trod enc P w 0 sp held g T.ex i=some x→ ∃e:Ex,e.ok∧cU (old w) w e.row i∧2 *e.sz≤Rows.uptoBulk x.1:=by
 intro g
 induction g using Nat.strongRecOn with
 |_ g ih=>
  intro i x h;obtain⟨Y,n,rfl,E,J,K,f⟩:=rS T.uEx h;rw[T.cEx]at E;obtain⟨a,b,c,d,e,rfl⟩:=QU E;obtain⟨W,Z,y2,y3,y4,rfl⟩:=GT K;rw[J,IX];have j:=f 0 _ _ rfl;have p:=f 1 _ _ rfl;have t:=f 2 _ _ rfl;have u:=f 3 _ _ rfl;have y:=f 4 _ _ rfl;simp only[gB,gP]at j p t u y;rw[T.one1 (by simp)]at j p t u y;obtain⟨k,z,N⟩:=vP T.uInt j;obtain⟨o,A,O⟩:=vP T.uInt p;obtain⟨m,B,Q⟩:=vP T.uU32 t;obtain⟨s,C,R⟩:=sM T.uStr u;obtain⟨l,S,U,⟨G,_⟩,v,D,I⟩:=mV (fun e=>2 *e.sz) (row:=Ex.row) (ok:=Ex.ok) T.uExs T.cEx (by decide) Ex.row_len y fun M F V X L=>ih M (by omega) F V L;rw[GK]at G;simp at z A B C D;subst z;subst A;subst B;subst C;subst D;refine⟨.mk k o m s l, .mk k o m s l (Qh N) (Qh O) (PN Q) R S U, ?_, ?_⟩
  ·rw[Ex.row_eq]
   simp only[cU,bZ,Ex.kind,Ex.op,Ex.num,Ex.name,Ex.kids];exact⟨_,_,rfl,rfl,_,_,rfl,rfl,_,_,rfl,rfl,_,_,rfl,rfl,_,_,rfl,I,rfl⟩
  have:=Il W.1;simp only[Ex.sz];omega
theorem W3 {b:Nat} {cs:List Value} {x:DataW H×List MemPlace} (h:DataW.trod enc P w 0 sp held b T.exs cs=some x): ∃l:List Ex,Ae l∧2 *pM l+1≤Rows.uptoBulk x.1∧ ∃v,cs=[v]∧bZ (old w) w (exs l) v:=by
 obtain⟨l,c,d,⟨a,_⟩,f⟩:=mV (fun e=>2 *e.sz) (row:=Ex.row) (ok:=Ex.ok) T.uExs T.cEx (by decide) Ex.row_len h fun n cs y _ g=>II T n cs y g;rw[GK]at a;exact⟨l,⟨c,d⟩,a,f⟩
theorem EU: ∀(g:Nat) (i:List Value) (x:DataW H×List MemPlace),DataW.trod enc P w 0 sp held g T.sm i=some x→ ∃e:Sm,e.ok∧cU (old w) w e.row i∧2 *e.sz≤Rows.uptoBulk x.1:=by
 intro g
 induction g using Nat.strongRecOn with
 |_ g ih=>
  intro i x h;obtain⟨xs,n,rfl,J,O,Q,f⟩:=rS T.uSm h;rw[T.cSm]at J;obtain⟨a,b,c,d,e,rfl⟩:=QU J;obtain⟨y0,y1,y2,y3,y4,rfl⟩:=GT Q;rw[O,IX];have o:=f 0 _ _ rfl;have p:=f 1 _ _ rfl;have v:=f 2 _ _ rfl;have y:=f 3 _ _ rfl;have z:=f 4 _ _ rfl;simp only[gB,gP]at o p v y z;rw[T.one1 (by simp)]at o p v y z;obtain⟨k,D,U⟩:=vP T.uInt o;obtain⟨s,E,V⟩:=sM T.uStr p;obtain⟨l,W,m2,v2,F,L⟩:=W3 T v;obtain⟨t,X,Y,⟨R,_⟩,v3,G,M⟩:=mV (fun e=>2 *e.sz) (row:=Sm.row) (ok:=Sm.ok) T.uSms T.cSm (by decide) Sm.row_len y fun B j C K A=>ih B (by omega) j C A;obtain⟨u,Z,a0,⟨S,_⟩,v4,I,N⟩:=mV (fun e=>2 *e.sz) (row:=Sm.row) (ok:=Sm.ok) T.uSms T.cSm (by decide) Sm.row_len z fun B j C K A=>ih B (by omega) j C A;rw[GI]at R S;simp at D E F G I;subst D;subst E;subst F;subst G;subst I;refine⟨.mk k s l t u, .mk k s l t u (Qh U) V W X Y Z a0, ?_, ?_⟩
  ·rw[Sm.row_eq]
   simp only[cU,bZ,Sm.kind,Sm.name,Sm.es,Sm.thn,Sm.els];exact⟨_,_,rfl,rfl,_,_,rfl,rfl,_,_,rfl,L,_,_,rfl,M,_,_,rfl,N,rfl⟩
  have:=Il y0.1;simp only[Sm.sz];omega
theorem R7 {b:Nat} {cs:List Value} {x:DataW H×List MemPlace} (h:DataW.trod enc P w 0 sp held b T.sms cs=some x): ∃l:List Sm,xH l∧2 *mQ l+1≤Rows.uptoBulk x.1∧ ∃v,cs=[v]∧bZ (old w) w (sms l) v:=by
 obtain⟨l,c,d,⟨a,_⟩,f⟩:=mV (fun e=>2 *e.sz) (row:=Sm.row) (ok:=Sm.ok) T.uSms T.cSm (by decide) Sm.row_len h fun n cs y _ g=>EU T n cs y g;rw[GI]at a;exact⟨l,⟨c,d⟩,a,f⟩
theorem HZ (C:Nat) (cs:List Value) (x:DataW H×List MemPlace) (h:DataW.trod enc P w 0 sp held C T.fu cs=some x): ∃f:Fu,f.ok∧cU (old w) w f.row cs∧mF f≤Rows.uptoBulk x.1:=by
 obtain⟨X,n,rfl,A,G,I,g⟩:=rS T.uFu h;rw[T.cFu]at A;obtain⟨a,b,c,d,e,rfl⟩:=QU A;obtain⟨Y,Z,y2,y3,y4,rfl⟩:=GT I;rw[G,IX];have i:=g 0 _ _ rfl;have j:=g 1 _ _ rfl;have k:=g 2 _ _ rfl;have o:=g 3 _ _ rfl;have p:=g 4 _ _ rfl;simp only[gB,gP]at i j k o p;rw[T.one1 (by simp)]at i j k o p;obtain⟨s,t,L⟩:=sM T.uStr i;obtain⟨K,M,Q,U,u,D⟩:=Ft T j;obtain⟨J,N,R,V,v,E⟩:=Ft T k;obtain⟨B,y,_⟩:=DataW.trod_bool T.uBool o;obtain⟨l,O,S,W,z,F⟩:=R7 T p;simp at t u v y z;subst t;subst u;subst v;subst y;subst z;refine⟨⟨s,K,J,B,l⟩,⟨L,M,N,O⟩, ?_, ?_⟩
 ·simp only[Fu.row,cU,bZ]
  exact⟨_,_,rfl,rfl,_,_,rfl,D,_,_,rfl,E,_,_,rfl,rfl,_,_,rfl,F,rfl⟩
 simp only[mF];omega
theorem FV {z:Nat} {cs:List Value} {x:DataW H×List MemPlace} (h:DataW.trod enc P w 0 sp held z T.pg cs=some x): ∃p:Pg,p.ok∧cU (old w) w p.row cs∧ ∀f∈p.funs,mF f≤Rows.uptoBulk x.1:=by
 obtain⟨R,n,rfl,u,E,F,i⟩:=rS T.uPg h;rw[T.cPg]at u;obtain⟨a,b,c,rfl⟩:=TF u;obtain⟨S,U,V,rfl⟩:=UH F;have d:=i 0 _ _ rfl;have e:=i 1 _ _ rfl;have g:=i 2 _ _ rfl;simp only[gB,gP]at d e g;rw[T.one1 (by simp)]at d e g;obtain⟨vs,G,N,k,B⟩:=R1 T d;obtain⟨v,I,J,O,l,C⟩:=Gi (row:=Ar.row) (ok:=fun a=>eV a.name∧iK a.size) T.uArs T.cAr (by decide) (fun _=>rfl) e fun n cs y _ j=>MY T n cs y j;obtain⟨t,K,L,⟨M,_⟩,Q,o,D⟩:=mV mF (row:=Fu.row) (ok:=Fu.ok) T.uFus T.cFu (by decide) (fun _=>rfl) g fun n cs y _ j=>HZ T n cs y j;simp at k l o;subst k;subst l;subst o;refine⟨⟨vs,v,t⟩,⟨G,I,J,K,L⟩, ?_,fun f A=>?_⟩
 ·simp only[Pg.row,cU]
  exact⟨_,_,rfl,B,_,_,rfl,C,_,_,rfl,D,rfl⟩
 have :mF f≤zB mF t:=OT A;rw[E];simp only[cP,dD,Rows.uptoBulk,Rows.uptoBulkAll];omega
theorem LC {r:Reach} {c:Nat} {v:Value} {d:DataW H} {o:List MemPlace} (a: ∃b,P.underlying T.pg=some (.struct b)) (n:Value.okWide P w r c T.pg v) (hd:DataW.Trod enc P w 0 sp held T.pg v d o) (u:Rows.uptoBulk d≤1048576): ∃p:Pg,Yq p∧bZ (old w) w p.av v:=by
 obtain⟨b,a⟩:=a;obtain⟨e,rfl,_⟩:=okWide_struct a n;obtain⟨t,k⟩:=hd;obtain⟨p,g,i,j⟩:=FV T k;refine⟨p,⟨g,fun f l=>?_⟩, ?_⟩
 ·have:=j f l
  simp only[mF]at this;omega
 simp only[Pg.av,bZ];exact⟨e.toList,by simp,i⟩
end
end
theorem wK {V:UInt8→Prop} {A:Prop} {d:Int} {e:Ex} (h:SX V A d e):(gK e).length≤12 *e.sz:=by
 induction h with
 |num d n hl h=>have:=W7 h;simp [gK,hY,iD,Ex.sz,pM];omega
 |var d c hl h hV=>simp [gK,hY,iD,Ex.sz,pM]
 |idx d a hl hA ha ih=>rw[gK,sJ];simp [iD,Ex.sz,pM];omega
 |get d hl=>simp [gK,hY,iD,Ex.sz,pM]
 |neg d a hl ha ih=>rw[gK,sJ];simp [iD,Ex.sz,pM];omega
 |op d o a b hl h ha hb iha ihb=>
  rw[gK,Zi]
  have :(iD 6 o 0 []).length≤1:=by
   simp only[iD,Int.reduceEq,cT,dP];cases opS[(o- 4).toNat]?<;>simp
  simp [Ex.sz,pM];omega
theorem Et {l:List Sm} (h: ∀s∈l,(nW s).length≤12 *s.sz):(iS l).length≤12 *mQ l:=by
 induction l with
 |nil=>simp [iS]
 |cons s l ih=>
  have b:=h s (dQ);have c:=ih fun x a=>h x (fA _ a);rw[iS,mQ,aB];omega
theorem G8 {V:UInt8→Prop} {A:Prop} {b:Int} {s:Sm} (h:SS V A b s):(nW s).length≤12 *s.sz:=by
 induction h with
 |set b c e hl hc hV he=>have:=wK he;simp [nW,sJ,Sm.sz,pM,mQ];omega
 |store b a e hl hA ha he=>have:=wK ha;have:=wK he;simp [nW,Zi,Sm.sz,pM,mQ];omega
 |put b e hl he=>have:=wK he;simp [nW,sJ,Sm.sz,pM,mQ];omega
 |cond b e t hl he ht ih=>have:=wK he;have:=Et ih;simp [nW,sJ,Sm.sz,pM,mQ];omega
 |loop b e t hl he ht ih=>have:=wK he;have:=Et ih;simp [nW,sJ,Sm.sz,pM,mQ];omega
theorem PQ {p:Pg} (c:Yq p): ∀f∈p.funs,gZ (fun l=>l.all yA) p=true→(iS f.body).length≤1000000000000:=fun f a h=>by
 obtain⟨g,b,d⟩:=Vd c.ok h;rw[b,bA]at a;subst a;have i:=Et fun s e=>G8 (d s e);have j:=(c.fs f (by rw[b];exact bA.2 rfl)).2.2;omega
def C6 (p:Pg):Bool:=decide (p.funs.length≤4)&&decide (p.vars.length≤40)&&decide (p.arrs.length≤4)&&(!fV p||decide (Gj p≤200))
theorem Wy {p:Pg} (a:Yq p) (h:C6 p=true):fV p=true→p.few:=fun b=>by
 simp only[C6,aU,bO]at h;exact a.few h.1.1.2 h.1.2 b
theorem W2 (p:Pg) (y:Yq p):eH dN 10 [p.av] (.bool (C6 p)):=by
 have k:=yL p y.ok;have n:=fun C D E=>JW p C D E (fun f F=>by have:=y.fs f F;simp only[D6];omega);have v:C6 p=(decide (p.funs.length≤4)&&decide (p.vars.length≤40)&&decide (p.arrs.length≤4)&&(!fV p||decide (Gj p≤200))):=rfl;rw[v];have b:decide ((p.funs.length:Int)≤4)=decide (p.funs.length≤4):=decide_eq_decide.2 (by omega);have c:decide ((p.vars.length:Int)≤40)=decide (p.vars.length≤40):=decide_eq_decide.2 (by omega);have d:decide ((p.arrs.length:Int)≤4)=decide (p.arrs.length≤4):=decide_eq_decide.2 (by omega);have B:decide ((Gj p:Int)≤200)=decide (Gj p≤200):=decide_eq_decide.2 (by omega);have x:p.av= .agg p.row:=rfl;have A:p.row=[.isl 1 (p.vars.map bH), .isl 2 (p.arrs.map Ar.row), .isl 5 (p.funs.map Fu.row)]:=rfl;rw[x,A]at *;clear v x A;generalize Gj p=z at *;by_cases o:p.funs.length≤4
 rotate_left
 ·have e:=bD o
  rw[e]at b;rw[e];refine bX 29 [.tmp 2] func10 ?_;refine aA fun K a=>?_;simp only[RR,seval];refine aQ fun j l=>?_;simp only[RR,seval];refine a _ _ (aA fun K a=>?_);simp only[aE,b,RR,seval]
  all_goals
   apply a;refine aO ?_;simp only[aY,aK,bR,RR,seval];refine aZ.pure ?_;rfl
 have e:=cO o;rw[e]at b;rw[e];by_cases t:p.vars.length≤40
 rotate_left
 ·have g:=bD t
  rw[g]at c;rw[g];refine bX 29 [.tmp 2] func10 ?_;refine aA fun K a=>?_;simp only[RR,seval];refine aQ fun j l=>?_;simp only[RR,seval];refine a _ _ (aA fun K a=>?_);simp only[aE,b,c,RR,seval]
  all_goals
   apply a;refine aO ?_;simp only[aY,aK,bR,RR,seval];refine aZ.pure ?_;rfl
 have g:=cO t;rw[g]at c;rw[g];by_cases u:p.arrs.length≤4
 rotate_left
 ·have i:=bD u
  rw[i]at d;rw[i];refine bX 29 [.tmp 2] func10 ?_;refine aA fun K a=>?_;simp only[RR,seval];refine aQ fun j l=>?_;simp only[RR,seval];refine a _ _ (aA fun K a=>?_);simp only[aE,b,c,d,RR,seval]
  all_goals
   apply a;refine aO ?_;simp only[aY,aK,bR,RR,seval];refine aZ.pure ?_;rfl
 have i:=cO u;rw[i]at d;rw[i];have n:=n (by omega) (by omega) (by omega)
 cases hr:fV p with
 |false=>
  rw[hr]at k;refine bX 29 [.tmp 2] func10 ?_;refine aA fun K a=>?_;simp only[RR,seval];refine aQ fun j l=>?_;simp only[RR,seval];refine a _ _ (aA fun K a=>?_);simp only[aE,b,c,d,RR,seval]
  all_goals (refine aP (k) ?_;simp only[RR,seval])
  all_goals
   apply a;refine aO ?_;simp only[aY,aK,bR,RR,seval];refine aZ.pure ?_;rfl
 |true=>
  rw[hr]at k;refine bX 29 [.tmp 2] func10 ?_;refine aA fun K a=>?_;simp only[RR,seval];refine aQ fun j l=>?_;simp only[RR,seval];refine a _ _ (aA fun K a=>?_);simp only[aE,b,c,d,RR,seval]
  all_goals (refine aP (k) ?_;simp only[RR,seval])
  all_goals (refine aP (n) ?_;simp only[B,RR,seval])
  all_goals
   apply a;refine aO ?_;simp only[aY,aK,bR,RR,seval];refine aZ.pure ?_;rfl
structure UJ (p:Pg) (i:Nat) (rs:dC→Bool×Int) (u:Us):Prop where
 f:eH dN 142 [p.av, .int .i64 i, .str u.name] (.tup [.int .i64 (eL p i u.name).1, .int .i64 (eL p i u.name).2])
 r:rs u.name=(decide ((eL p i u.name).1=1),if(eL p i u.name).1=0 then 0 else(eL p i u.name).2)
 o:iT p i u=true
 n:yE p i u=true
theorem UJ.k1 {p:Pg} {i:Nat} {b:dC→Bool×Int} {s:dC} {n:Int} (h:UJ p i b ⟨s,1,n⟩):((eL p i s).1=1∧b s=(true,(eL p i s).2))∨((eL p i s).1=2∧b s=(false,(eL p i s).2)):=by
 have a:=h.r;have c:=h.o;simp only[iT,eD,Tn,Kr,eU,rQ,bO]at c;rcases c.1.1 with(h1|h1)|h1
 ·exact absurd trivial h1
 ·simp only[h1]at a;exact .inl ⟨h1,a⟩
 simp only[h1]at a;exact .inr ⟨h1,a⟩
theorem UJ.k3 {p:Pg} {i:Nat} {c:dC→Bool×Int} {s:dC} {n:Int} (h:UJ p i c ⟨s,3,n⟩):(eL p i s).1=3∧c s=(false,(eL p i s).2):=by
 have b:=h.r;have a:=h.o;simp only[iT,eD,Tn,Kr,eU,rQ,bO]at a;rcases a.1.2 with h1|h1
 ·exact absurd trivial h1
 simp only[h1]at b;exact⟨h1,b⟩
theorem UJ.k4 {p:Pg} {i:Nat} {e:dC→Bool×Int} {s:dC} {n:Int} (h:UJ p i e ⟨s,4,n⟩):(eL p i s).1=4∧e s=(false,(eL p i s).2)∧ ∃g,p.funs[(eL p i s).2.toNat]?=some g∧(g.params.length:Int)=n:=by
 have d:=h.r;have c:=h.o;have a:=h.n;simp only[iT,eD,Tn,Kr,eU,rQ,bO]at c;rcases c.2 with b|⟨b,_⟩
 ·exact absurd trivial b
 simp only[b]at d;refine⟨b,d, ?_⟩;simp only[yE,nS,Qg,yM]at a
 cases hg:p.funs[(eL p i s).2.toNat]? with
 |none=>rw[hg]at a;cases a
 |some g=>rw[hg]at a;exact⟨g,rfl,aF a⟩
theorem lV {F:Nat→Prop} {c:List (Option Nat)} {Q:fK} {d:Option Nat} {f:List Oper} {fr:Fr} {H:Hp} {g:FuncId} {a:List AV} {p:Pg} {cx:Cx} {r:Nat} {vv:AV} {abs:List Nat} {vo:AV} {o:Rz Int}
  (y:pK dN g a H (Vo p cx r vv abs vo H o)) (u: ∀b,F b)
  (h: ∀w vo' H',eB w→(∀v s,o= .val v s→w=v)→(∀e s,o= .fin e s→e≠0)→fM p cx r vv abs o.st vo' (mN o) H'→dV r vv abs vo vo' H H'→eA dN F c Q f (fL fr d (.int .u32 w)) H'):qK dN F c Q d f fr H g a:=by
 refine tA y u fun z H' ⟨w,vo',i,j,k,l,n,t⟩=>?_;subst i;exact h w vo' H' j k l n t
theorem Jh {F:Nat→Prop} {j:List (Option Nat)} {Q:fK} {d:Option Nat} {k:List Oper} {fr:Fr} {H:Hp} {g:FuncId} {f:List AV} {p:Pg} {cx:Cx} {r:Nat} {vv:AV} {abs:List Nat} {vo:AV} {x i:Nat} {wv:AV} {n:Nat} {o:Rz (Option Int×List Int)}
  (J:pK dN g f H (sS p cx r vv abs vo x i wv n H o)) (I: ∀b,F b)
  (h: ∀ow c a vo' H',ow.length=n→(∀y∈ow,eB y)→eB a→(c=false→a=0)→(∀q s,o= .val q s→ow=q.2∧c=q.1.isSome∧a=q.1.getD 0)→(∀e s,o= .fin e s→e≠0)→H' x=some (.rows 4 [[.int .i64 i,wv, .bool c, .int .u32 a]])→hJ vv abs vo' wv ow H'→fM p cx r vv abs o.st vo' (mN o) H'→kC r vv abs vo vo' x wv H H'→eA dN F j Q k (fL fr d (.tup [])) H'):qK dN F j Q d k fr H g f:=by
 refine tA J I fun K H' ⟨ow,c,a,vo',l,v,z,A,B,C,D,E,G,t,u⟩=>?_;subst l;exact h ow c a vo' H' v z A B C D E G t u
theorem Bn {F:Nat→Prop} {f:List (Option Nat)} {Q:fK} {d:Option Nat} {i:List Oper} {fr:Fr} {H:Hp} {g:FuncId} {c:List AV} {p:Pg} {cx:Cx} {r:Nat} {vv:AV} {abs:List Nat} {vo:AV} {o:Rz Unit}
  (u:pK dN g c H (fun a H'=>a= .ret (.tup [])∧(∀e s,o= .fin e s→e≠0)∧fM p cx r vv abs o.st vo (mN o) H'∧dV r vv abs vo vo H H')) (t: ∀b,F b)
  (h: ∀H',(∀e s,o= .fin e s→e≠0)→fM p cx r vv abs o.st vo (mN o) H'→dV r vv abs vo vo H H'→eA dN F f Q i (fL fr d (.tup [])) H'):qK dN F f Q d i fr H g c:=by
 refine tA u t fun a H' ⟨j,k,l,n⟩=>?_;subst j;exact h H' k l n
theorem Q4 (b:Bool):eH dN 197 [.bool b] (.int .u32 (if b=true then 1 else 0)):=by
 cases b
 ·skip
  refine bX 4 [.tmp 2] func197 ?_;refine aA fun K a=>?_;simp only[RR,seval];refine a _ _ (aI (aA fun K a=>?_));simp only[RR,seval];refine a _ _ (bN ?_);refine aL ?_;simp only[RR];refine aA fun K a=>?_;simp only[RR,seval];apply a;refine aO ?_;simp only[aY,aK,bR,RR,seval];refine aZ.pure ?_;rfl
 skip;refine bX 4 [.tmp 2] func197 ?_;refine aA fun K a=>?_;simp only[RR,seval];refine a _ _ (aI (aA fun K a=>?_));simp only[RR,seval];refine a _ _ (cL (aA fun K a=>?_));simp only[RR,seval];apply a;refine aO ?_;simp only[aY,aK,bR,RR,seval];refine aZ.pure ?_;rfl
structure Ab (p:Pg) (cx:Cx) (r:Nat) (vv:AV) (abs:List Nat) (n:Nat):Prop where
 V: ∀(i:Nat) (rs:dC→Bool×Int) (ow:List Int) (e:Ex) (st:RS) (vo:AV) (en:Int) (H:Hp) (x:Nat) (wv:AV) (bk:Bool) (vl:Int) (o:Rz Int),e.ok→(∀u∈mO e,UJ p i rs u)→(∀u∈fE e.kids,UJ p i rs u)→fM p cx r vv abs st vo en H→hJ vv abs vo wv ow H→(∀y∈ow,eB y)→H x=some (.rows 4 [[.int .i64 i,wv, .bool bk, .int .u32 vl]])→uN en st (nH cx n rs ow e st) o→
  pK dN 153 [.ptr 11 r 0 0, .ptr 4 x 0 0, .agg e.row] H (Vo p cx r vv abs vo H o)
 C: ∀(i:Nat) (rs:dC→Bool×Int) (ow:List Int) (s:dC) (l:List Ex) (st:RS) (vo:AV) (H:Hp) (x:Nat) (wv:AV) (bk:Bool) (vl:Int) (o:Rz Int),Ae l→UJ p i rs ⟨s,4,l.length⟩→(∀u∈fE l,UJ p i rs u)→fM p cx r vv abs st vo 0 H→hJ vv abs vo wv ow H→(∀y∈ow,eB y)→H x=some (.rows 4 [[.int .i64 i,wv, .bool bk, .int .u32 vl]])→Rr cx n rs ow (rs s).2 l st=some o→
  pK dN 155 [.ptr 11 r 0 0, .ptr 4 x 0 0, .str s, .isl 5 (l.map Ex.row)] H (Vo p cx r vv abs vo H o)
 S: ∀(i:Nat) (rs:dC→Bool×Int) (ow:List Int) (e:Sm) (st:RS) (vo:AV) (H:Hp) (x:Nat) (wv:AV) (o:Rz (Option Int×List Int)),e.ok→(∀u∈kI e,UJ p i rs u)→(∀u∈fE e.es,UJ p i rs u)→(∀u∈dY e.thn,UJ p i rs u)→(∀u∈dY e.els,UJ p i rs u)→fM p cx r vv abs st vo 0 H→hJ vv abs vo wv ow H→(∀y∈ow,eB y)→H x=some (.rows 4 [[.int .i64 i,wv, .bool false, .int .u32 0]])→rA cx n rs ow e st=some o→
  pK dN 104 [.ptr 11 r 0 0, .ptr 4 x 0 0, .agg e.row] H (sS p cx r vv abs vo x i wv ow.length H o)
 L: ∀(i:Nat) (rs:dC→Bool×Int) (ow:List Int) (l:List Sm) (st:RS) (vo:AV) (en:Int) (H:Hp) (x:Nat) (wv:AV) (bk:Bool) (vl:Int) (o:Rz (Option Int×List Int)),xH l→(∀u∈dY l,UJ p i rs u)→fM p cx r vv abs st vo en H→hJ vv abs vo wv ow H→(∀y∈ow,eB y)→H x=some (.rows 4 [[.int .i64 i,wv, .bool bk, .int .u32 vl]])→eB vl→(bk=false→vl=0)→(en=0→bk=false)→uN en st (oS cx n rs ow l st) o→
  pK dN 67 [.ptr 11 r 0 0, .ptr 4 x 0 0, .isl 5 (l.map Sm.row)] H (sS p cx r vv abs vo x i wv ow.length H o)
section
variable {p : Pg} {cx : Cx} {r : Nat} {vv : AV} {abs : List Nat} {st : RS} {vo : AV} {H : Hp}
theorem Bd (j:NH cx) (a:fM p cx r vv abs st vo 0 H):pK dN 154 [.ptr 11 r 0 0] H (fun g H'=>g= .ret (.tup [])∧(∀e s,nF cx st= .fin e s→e≠0)∧fM p cx r vv abs (nF cx st).st vo (mN (nF cx st)) H'∧dV r vv abs vo vo H H'):=by
 have c:=a.r;by_cases f:cx.fuel≤st.ticks
 ·have d:(cx.fuel:Int)≤(st.ticks:Int):=by omega
  have e:nF cx st= .fin 5 st:=by unfold nF;rw[bP f]
  rw[e];refine bX 21 [] func154 ?_;refine aI (aC fun K b=>?_);refine bF (fun x=>x≠r) [(0,3),(1,3),(2,3),(3,1),(4,3),(5,3),(6,3),(7,1),(8,3)] [] eP (by kernel_rfl) rfl rfl ?_;simp only[eM,c,d,RR,seval];refine b _ _ (cL (aA fun K b=>?_));simp only[c,RR,seval];apply b;refine aO ?_;simp only[aY,aK,bR,RR,seval];exact aZ.run ⟨rfl,(fun e s h=>by cases h;decide),a.turn 5 rfl rfl rfl a.rd a.tk,dV.run _⟩
 have d: ¬(cx.fuel:Int)≤(st.ticks:Int):=by omega
 have e:nF cx st= .val () {st with ticks:=st.ticks+1}:=by unfold nF;rw[aM f]
 rw[e];have k:=j.fuel;have i:IntKind.wrap .i64 ((st.ticks:Int)+1)=((st.ticks+1:Nat):Int):=by rw[aT _ (by omega)];omega
 refine bX 21 [] func154 ?_;refine aI (aC fun K b=>?_);refine bF (fun x=>x≠r) [(0,3),(1,3),(2,3),(3,1),(4,3),(5,3),(6,3),(7,1),(8,3)] [] eP (by kernel_rfl) rfl rfl ?_;simp only[eM,c,d,RR,seval];refine b _ _ (bN ?_);refine aL ?_;simp only[RR];refine aG ?_;simp only[c,i,RR,seval];simp only[aY,aK,bR,seval];exact aZ.run ⟨rfl,(fun e s h=>by cases h),a.turn (st':={st with ticks:=st.ticks+1}) 0 rfl rfl rfl a.rd (by show st.ticks+1≤_;omega),dV.run _⟩
end
end Go.Proofs.YtaecpjgmcffliaaGreatDoor
