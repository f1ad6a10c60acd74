/- Qd -/
import Derived.Test.YtaecpjgmcffliaaGreatDoorJf
import Derived.Test.YtaecpjgmcffliaaGreatDoorWb
import Derived.Test.YtaecpjgmcffliaaGreatDoorSy2
import Derived.Test.YtaecpjgmcffliaaGreatDoorSc1
set_option linter.unusedSimpArgs false
set_option linter.unusedVariables false
set_option maxRecDepth 10000
set_option maxHeartbeats 2000000
namespace Go.Al
theorem NK {p:Prop} [Decidable p] {a b:Int} (e:0≤a∧a<4294967296) (f:0≤b∧b<4294967296):0≤(if p then a else b)∧(if p then a else b)<4294967296:=by
 split
 ·exact e
 exact f
theorem SD (c:Int):0≤C6 c∧C6 c<4294967296:=by
 unfold C6
 repeat (first|refine NK (by decide) ?_|decide)
theorem LH {c:Int} (h:0≤c∧c<4294967296):0≤Gl c∧Gl c<4294967296:=by
 unfold Gl;split
 ·exact SD c
 exact h
theorem LG {c:Int} (h:0≤c∧c<4294967296):0≤Bg c∧Bg c<4294967296:=by
 unfold Bg;split
 ·decide
 exact LH h
theorem LF {c:Int} (h:0≤c∧c<4294967296):0≤vF c∧vF c<4294967296:=by
 unfold vF;split
 ·exact Ll _
 exact LG h
theorem PH {c:Int} {z:Zs} (h:0≤z.m∧z.m<4294967296):0≤Vk c z∧Vk c z<4294967296:=by
 unfold Vk;split
 ·exact Ll _
 exact h
theorem UZ {c:Int} {z:Zs} (h:0≤z.m∧z.m<4294967296):0≤Nj c z∧Nj c z<4294967296:=by
 unfold Nj;split
 ·decide
 exact PH h
theorem UY {c:Int} {z:Zs} (h:0≤c∧c<4294967296):0≤L6 c z∧L6 c z<4294967296:=by
 unfold L6;split
 ·exact Ll _
 exact LF h
theorem UX {c:Int} {z:Zs} (h:0≤c∧c<4294967296):0≤A5 c z∧A5 c z<4294967296:=by
 unfold A5;split
 ·exact Ll _
 exact UY h
theorem UW {q c:Int} {z:Zs} (h:0≤c∧c<4294967296):0≤Ni q c z∧Ni q c z<4294967296:=by
 unfold Ni;split
 ·exact Ll _
 exact UX h
def PW (arr pend:List Int):Prop:= ∀j,j<pend.length→arr[4004 -pend.length+j]?=pend[j]?
section
variable {cx : Cx} {rs : dE → Bool × Int} {P : RS → Prop} {l : List Sm} {c n o x s m v d i q : Int} {arr : List Int} {rd : Nat} {out : dE} {tk : Nat}
theorem pD.put {e:Ex} {w:Int} (b:PV rs (jX c n o x s m v d i q arr rd out tk) e w) (a:out.length<65536) (h:Wp cx rs l (jX c n o x s m v d i q arr rd (out++[UInt8.ofNat (w % 256).toNat]) tk) P):Wp cx rs (.mk 3 [] [e] [] []::l) (jX c n o x s m v d i q arr rd out tk) P:=by
 refine .put b a ?_;rw[IntKind.wrap_u8];exact h
theorem X3 (H:pD rs) {a:List Int} (z:a.length≤4) (p:PW arr a) (y:out.length≤60000) (u:tk+1+a.length<cx.fuel)
  (h: ∀x,Wp cx rs l (jX c n o x s m v d 4004 q arr rd (out++uZ a) (tk+1+a.length)) P):Wp cx rs (.mk 5 [] [.mk 6 14 0 [] [.mk 2 0 0 [105] [], .mk 1 0 4004 [] []]] Gt []::l) (jX c n o x s m v d (4004 -(a.length:Int)) q arr rd out tk) P:=by
 refine Wp.loop (fun j st=> ∃x,st=jX c n o x s m v d (4004 -(a.length:Int)+(j:Int)) q arr rd (out++uZ (a.take j)) (tk+1+j)) a.length (by show tk<cx.fuel;omega) ⟨x,by rw[gN,show uZ []=[]from rfl,eF,show(4004 -(a.length:Int)+((0:Nat):Int))=4004 -(a.length:Int)by omega];rfl⟩ ?_ ?_
 rotate_left
 ·rintro _ ⟨x,rfl⟩
  refine⟨(by have e:PV rs (jX c n o x s m v d (4004 -(a.length:Int)+(a.length:Int)) q arr rd (out++uZ (a.take a.length)) (tk+1+a.length)) (.mk 6 14 0 [] [.mk 2 0 0 [105] [], .mk 1 0 4004 [] []]) _:=(.op H.vi .num (Dq _ _));rw[aO (by omega)]at e;exact e), ?_⟩;rw[dV,show(4004 -(a.length:Int)+(a.length:Int))=4004 by omega];exact h x
 rintro j _ b ⟨x,rfl⟩;refine⟨_,(.op H.vi .num (Dq _ _)),by rw[bF (by omega)];decide, ?_⟩;have t:(uZ (a.take j)).length≤16:=by rw[Ha,dS];omega
 have g:=aC b;have k:a.take (j+1)=a.take j++[a[j]]:=bQ b;have f:=p j b;rw[g]at f;generalize a[j]=w at *;unfold Gt;refine H.wx (H.it H.vi (by rw[show(4004 -(a.length:Int)+(j:Int)).toNat=4004 -a.length+j by omega];exact f)) ?_;refine pD.put H.vx (by rw[aB];omega) ?_;refine pD.put (.op H.vx .num (UM _)) (by simp only[aB,aJ,aT];omega) ?_;refine pD.put (.op H.vx .num (U7 _)) (by simp only[aB,aJ,aT];omega) ?_;refine pD.put (.op H.vx .num (OU _)) (by simp only[aB,aJ,aT];omega) ?_;refine H.wi (.op H.vi .num (J2 _ _)) (.nil ⟨by show tk+1+j<cx.fuel;omega,w, ?_⟩);rw[eL (by omega),k,Ur];simp only[uZ,UA,eF,bV,cU,cC];rw[show(4004 -(a.length:Int)+(j:Int)+1)=4004 -(a.length:Int)+((j+1:Nat):Int)by omega];rfl
theorem gX {a:List Int} {i j:Nat} {v:Int} (h:i<a.length):(a.set i v)[j]?=if i=j then some v else a[j]?:=by
 rw[hJ];by_cases e:i=j
 ·rw[bF e,bF e,bF (e▸h)]
 rw[aO e,aO e]
structure OB (a0 arr:List Int) (w:List Int):Prop where
 len:arr.length=4096
 low: ∀j,j<4000→arr[j]?=a0[j]?
 w: ∀j,j<w.length→arr[4000+j]?=w[j]?
theorem OB.push {b arr w:List Int} (h:OB b arr w) (p:w.length<4) {k:Nat} (f:k=4000+w.length) (x:Int):OB b (arr.set k x) (w++[x]):=by
 have g:=h.len;subst f;refine⟨by rw[dK];exact h.len,fun j a=>?_,fun j a=>?_⟩
 ·rw[gX (by omega),aO (by omega)];exact h.low j a
 rw[aB,bW]at a;rw[gX (by omega)];by_cases e:w.length=j
 ·subst e;simp
 rw[aO (by omega),fC (by omega)];exact h.w j (by omega)
theorem OB.turn {b arr w:List Int} {y:Int} (h:OB b arr (w++[y])) (p:w.length<4) {k:Nat} (f:k=4000+w.length) (x:Int):OB b (arr.set k x) (w++[x]):=by
 have g:=h.len;subst f;refine⟨by rw[dK];exact h.len,fun j a=>?_,fun j a=>?_⟩
 ·rw[gX (by omega),aO (by omega)];exact h.low j a
 rw[aB,bW]at a;rw[gX (by omega)];by_cases e:w.length=j
 ·subst e;simp
 have:=h.w j (by rw[aB,bW];omega);rw[aO (by omega),this,fC (by omega),fC (by omega)]
theorem E0 (H:pD rs) {I:Int} {z:Zs} (O:arr.length=4096) (u:0≤c∧c<4294967296) (M:arr[q.toNat]?=some c) (R: ∀k:Nat,k<256→arr[3000+k]?=some (C6 k)) (Q:0≤z.m∧z.m<4294967296)
  (h: ∀v D,OB arr D (vT q c z)→Wp cx rs l (jX c n o x (A6 c z) (Nj c z) v (zd q c z) 4000 (gR (q+1)) D rd out tk) P):Wp cx rs (Af++l) (jX I n o x z.s z.m v z.d i q arr rd out tk) P:=by
 unfold Af;simp only[cU,cC];refine H.wc (H.it H.vq M) ?_;refine H.wv H.vc ?_;refine .cond (fun g=>g=jX c n o x z.s z.m (Gl c) z.d i q arr rd out tk) (.op H.vc .num (Dq _ _)) (fun a=>?_) (fun a=>?_) ?_
 ·have b:c<256:=by by_cases e:c<256;exact e;rw[aO e]at a;exact absurd rfl a
  have F:=R c.toNat (by omega);have J:gR (c+3000)=c+3000:=eL (by omega);have K:((c.toNat:Nat):Int)=c:=by omega
  rw[K]at F;refine H.wv (H.it (.op H.vc .num (J2 _ _)) (by rw[J,show(c+3000).toNat=3000+c.toNat by omega];exact F)) (.nil ?_);rw[Gl,bF b]
 ·have b: ¬c<256:=fun e=>by rw[bF e]at a;exact absurd a (by decide)
  rw[Gl,aO b]
 rintro _ rfl;have T:=LH u;refine .cond (fun g=>g=jX c n o x z.s z.m (Bg c) z.d i q arr rd out tk) (.op H.vv .num (Uy _ _)) (fun a=>?_) (fun a=>?_) ?_
 ·have b:Gl c=0:=by by_cases e:Gl c=0;exact e;rw[aO e]at a;exact absurd rfl a
  refine H.wv .num (.nil ?_);rw[Bg,bF b]
 ·have b: ¬Gl c=0:=fun e=>by rw[bF e]at a;exact absurd a (by decide)
  rw[Bg,aO b]
 rintro _ rfl;have U:=LG u;refine .cond (fun g=>g=jX c n o x z.s z.m (vF c) z.d i q arr rd out tk) (.op H.vv .num (Dq _ _)) (fun a=>?_) (fun a=>?_) ?_
 ·have b:Bg c<16:=by by_cases e:Bg c<16;exact e;rw[aO e]at a;exact absurd rfl a
  refine H.wv (.op (.op H.vv .num (UL _ _)) .num (J2 _ _)) (.nil ?_);rw[vF,bF b]
 ·have b: ¬Bg c<16:=fun e=>by rw[bF e]at a;exact absurd a (by decide)
  rw[vF,aO b]
 rintro _ rfl;have V:=LF u;have L:(4000:Int).toNat=4000:=rfl;have B:(4001:Int).toNat=4001:=rfl;have E:(4002:Int).toNat=4002:=rfl;have C:(4003:Int).toNat=4003:=rfl;refine H.st .num (.op .num H.vd (J2 _ _)) (by rw[L];omega) ?_;refine H.st .num (.op .num H.vd (J2 _ _)) (by rw[B,dK];omega) ?_;have f:OB arr ((arr.set (4000:Int).toNat (gR (270532609+z.d))).set (4001:Int).toNat (gR (269484032+z.d))) [gR (270532609+z.d),gR (269484032+z.d)]:=((⟨O,fun _ _=>rfl,fun j N=>by simp at N⟩:OB arr arr []).push (by simp) rfl _).push (by simp) rfl _;generalize(arr.set (4000:Int).toNat (gR (270532609+z.d))).set (4001:Int).toNat (gR (269484032+z.d))=y at *;refine .cond (fun g=>g=jX c n o x z.s (Vk c z) (vF c) z.d i q y rd out tk) (.op (.op H.vc .num (LC _ _)) .num (Dq _ _)) (fun a=>?_) (fun a=>?_) ?_
 ·have b:gR (c- 48)<10:=by by_cases e:gR (c- 48)<10;exact e;rw[aO e]at a;exact absurd rfl a
  refine H.wm (.op (.op H.vm .num (UL _ _)) (.op H.vc .num (LC _ _)) (J2 _ _)) (.nil ?_);rw[Vk,bF b]
 ·have b: ¬gR (c- 48)<10:=fun e=>by rw[bF e]at a;exact absurd a (by decide)
  rw[Vk,aO b]
 rintro _ rfl;have W:=PH (c:=c) Q;refine .cond (fun g=> ∃p,g=jX c n o x z.s (Nj c z) (L6 c z) z.d i q p rd out tk∧OB arr p [gR (270532609+z.d),CB c z]) (.op H.vc .num (Uy _ _)) (fun a=>?_) (fun a=>?_) ?_
 ·have b:c=32:=by by_cases e:c=32;exact e;rw[aO e]at a;exact absurd rfl a
  refine H.st .num (.op .num (.op H.vm .num (UK (by omega))) (J2 _ _)) (by rw[B];have:=f.len;omega) ?_;refine H.wv (.op H.vv (.op H.vm .num (U7 _)) (J2 _ _)) ?_;refine H.wm .num (.nil ⟨y.set (4001:Int).toNat (gR (17825792+Vk c z % 65536)), ?_, ?_⟩)
  ·rw[L6,Nj,bF b,bF b]
  rw[CB,bF b];exact OB.turn (w:=[gR (270532609+z.d)]) f (by simp) rfl _
 ·have b: ¬c=32:=fun e=>by rw[bF e]at a;exact absurd a (by decide)
  refine⟨y, ?_, ?_⟩
  ·rw[L6,Nj,aO b,aO b]
  rw[CB,aO b];exact f
 rintro _ ⟨p,rfl,f⟩;refine .cond (fun g=>g=jX c n o x (BV c z) (Nj c z) (A5 c z) z.d i q p rd out tk) (.op (.op H.vc .num (LC _ _)) .num (Dq _ _)) (fun a=>?_) (fun a=>?_) ?_
 ·have b:gR (c- 97)<26:=by by_cases e:gR (c- 97)<26;exact e;rw[aO e]at a;exact absurd rfl a
  refine H.wv (.op H.vs H.vc (J2 _ _)) ?_;refine H.ws .num (.nil ?_);rw[A5,BV,bF b,bF b]
 ·have b: ¬gR (c- 97)<26:=fun e=>by rw[bF e]at a;exact absurd a (by decide)
  rw[A5,BV,aO b,aO b]
 rintro _ rfl;refine .cond (fun g=>g=jX c n o x (A6 c z) (Nj c z) (A5 c z) z.d i q p rd out tk) (.op H.vc .num (Uy _ _)) (fun a=>?_) (fun a=>?_) ?_
 ·have b:c=58:=by by_cases e:c=58;exact e;rw[aO e]at a;exact absurd rfl a
  refine H.ws .num (.nil ?_);rw[A6,bF b]
 ·have b: ¬c=58:=fun e=>by rw[bF e]at a;exact absurd a (by decide)
  rw[A6,aO b]
 rintro _ rfl;refine .cond (fun g=> ∃t,g=jX c n o x (A6 c z) (Nj c z) (A5 c z) z.d i q t rd out tk∧OB arr t [gR (270532609+z.d),U8 c z]) (.op H.vc .num (Uy _ _)) (fun a=>?_) (fun a=>?_) ?_
 ·have b:c=64:=by by_cases e:c=64;exact e;rw[aO e]at a;exact absurd rfl a
  refine H.st .num .num (by rw[B];have:=f.len;omega) (.nil ⟨_,rfl, ?_⟩);rw[U8,bF b];exact OB.turn (w:=[gR (270532609+z.d)]) f (by simp) rfl _
 ·have b: ¬c=64:=fun e=>by rw[bF e]at a;exact absurd a (by decide)
  refine⟨p,rfl, ?_⟩;rw[U8,aO b];exact f
 rintro _ ⟨t,rfl,f⟩;refine .cond (fun g=>g=jX c n o x (A6 c z) (Nj c z) (Ni q c z) z.d i q t rd out tk) (.op H.vc .num (Uy _ _)) (fun a=>?_) (fun a=>?_) ?_
 ·have b:c=87:=by by_cases e:c=87;exact e;rw[aO e]at a;exact absurd rfl a
  refine H.wv (.op .num (.op H.vq .num (UL _ _)) (J2 _ _)) (.nil ?_);rw[Ni,bF b]
 ·have b: ¬c=87:=fun e=>by rw[bF e]at a;exact absurd a (by decide)
  rw[Ni,aO b]
 rintro _ rfl;have X:=UW (q:=q) (z:=z) u;refine H.st .num (.op H.vv .num (UI (by omega))) (by rw[E];have:=f.len;omega) ?_;have f:=f.push (by simp) (k:=4002) rfl (Ni q c z % 536870912);rw[E];refine H.wd (.op (.op H.vd (.op H.vv .num (OT _)) (J2 _ _)) .num (LC _ _)) ?_;refine H.st .num (.op .num H.vd (J2 _ _)) (by rw[C];have:=f.len;omega) ?_;have f:=f.push (by simp) (k:=4003) rfl (gR (286261249+zd q c z));rw[C];have S:gR (gR (z.d+Ni q c z/536870912)- 2)=zd q c z:=rfl;rw[S];generalize((t.set 4002 (Ni q c z % 536870912)).set 4003 (gR (286261249+zd q c z)))=G at *;refine .cond (fun g=> ∃A,g=jX c n o x (A6 c z) (Nj c z) (Ni q c z) (zd q c z) i q A rd out tk∧OB arr A (vT q c z)) (.op H.vc .num (Uy _ _)) (fun a=>?_) (fun a=>?_) ?_
 ·have b:c=35:=by by_cases e:c=35;exact e;rw[aO e]at a;exact absurd rfl a
  refine H.st .num .num (by rw[C];have:=f.len;omega) (.nil ⟨_,rfl, ?_⟩);rw[vT,BZ,bF b];exact OB.turn (w:=[gR (270532609+z.d),U8 c z,Ni q c z % 536870912]) f (by simp) rfl _
 ·have b: ¬c=35:=fun e=>by rw[bF e]at a;exact absurd a (by decide)
  refine⟨G,rfl, ?_⟩;rw[vT,BZ,aO b];exact f
 rintro _ ⟨A,rfl,f⟩;refine H.wi .num ?_;refine H.wq (.op H.vq .num (J2 _ _)) ?_;exact h _ _ f
end
def Nz (T:List Int):List Int:=[1145390419,4 *(T.length:Int),4224]
def zK (T:List Int) (k:Nat):Zs×List Int:=iK ((T++[0]).take k) 0 PL
def LW (T:List Int) (k:Nat):List Int:=Nz T++(zK T k).2
theorem pD.go {a:dE→Bool×Int} (H:pD a) {c n o x s m v d i q:Int} {arr:List Int} {rd:Nat} {b:dE} {e:Nat} (h: ¬n<q):PV a (jX c n o x s m v d i q arr rd b e) (.mk 7 0 0 [] [.mk 6 14 0 [] [.mk 2 0 0 [110] [], .mk 2 0 0 [113] []]]) 1:= .neg (x:=0) (.op H.vn H.vq (by rw[Dq,aO h])) rfl
theorem pD.stop {a:dE→Bool×Int} (H:pD a) {c n o x s m v d i q:Int} {arr:List Int} {rd:Nat} {b:dE} {e:Nat} (h:n<q):PV a (jX c n o x s m v d i q arr rd b e) (.mk 7 0 0 [] [.mk 6 14 0 [] [.mk 2 0 0 [110] [], .mk 2 0 0 [113] []]]) 0:= .neg (x:=1) (.op H.vn H.vq (by rw[Dq,bF h])) rfl
theorem RL (T:List Int):zK T T.length=iK T 0 PL:=by unfold zK;rw[List.take_left'];rfl
theorem LV {T:List Int} {k:Nat} {c:Int} (h:(T++[0])[k]?=some c):zK T (k+1)=(Bn (k:Int) c (zK T k).1,(zK T k).2++vT (k:Int) c (zK T k).1):=by
 obtain⟨a,rfl⟩:=bD.1 h;unfold zK;rw[bQ a,U9,dS,Nat.min_eq_left (by omega),cD]
def KI (T:List Int) (aR:List Int) (tk0:Nat) (k:Nat) (st:RS):Prop:= ∃c o x v pend out arr tk,pend.length≤4∧PW arr pend∧arr.length=4096∧(∀j,j<4000→arr[j]?=aR[j]?)∧out++uZ pend=uZ (LW T k)∧(k=T.length+1→out=uZ (LW T T.length))∧tk≤tk0+1+6 *k∧(0≤(zK T k).1.m∧(zK T k).1.m<4294967296)∧
 st=jX c (T.length:Int) o x (zK T k).1.s (zK T k).1.m v (zK T k).1.d (4004 -(pend.length:Int)) (k:Int) arr T.length out tk
theorem HJ {cx:Cx} {B:dE→Bool×Int} (H:pD B) {T f:List Int} (l:AT f T) (V:T.length≤2500) (I: ∀x∈T,0≤x∧x<4294967296) {st:RS} {tk0:Nat} (R:st.ticks=tk0) (W:tk0+6 *T.length+20<cx.fuel) (G:KI T f tk0 0 st.tick):
  Wp cx B [.mk 5 [] [.mk 7 0 0 [] [.mk 6 14 0 [] [.mk 2 0 0 [110] [], .mk 2 0 0 [113] []]]] (.mk 5 [] [.mk 6 14 0 [] [.mk 2 0 0 [105] [], .mk 1 0 4004 [] []]] Gt []::Af) []] st (fun s=>s.out=uZ (Tv T)∧s.ticks≤tk0+6 *T.length+20):=by
 refine Wp.loop (KI T f tk0) (T.length+1) (by omega) G ?_ ?_
 rotate_left
 ·rintro _ ⟨c,o,x,v,y,u,arr,i,_,_,_,_,_,F,S,_,rfl⟩
  refine⟨?_, .nil ⟨?_,by show i≤_;omega⟩⟩
  ·exact H.stop (by omega)
  show u=_;rw[F rfl];unfold LW;rw[RL];rfl
 rintro k _ X ⟨c,o,x,v,y,u,arr,i,N,O,L,g,A,_,Y,b,rfl⟩;refine⟨1,H.go (by omega),by decide, ?_⟩
 have M:u.length≤60000:=by
  have:=congrArg List.length A;rw[aB,Ha (LW T k)]at this;unfold LW at this;have e:(zK T k).2.length=4 *((T++[0]).take k).length:=by unfold zK;exact vU _ _ _
  rw[aB,e,dS,aB]at this;simp only[Nz,aJ,aT]at this;omega
 refine X3 H N O M (by omega) fun Q=>?_;rw[A];have U: ∀j,j<4000→arr[j]?=f[j]?:=g;obtain⟨d,hd⟩: ∃d,(T++[0])[k]?=some d:=⟨_,aC (by rw[aB,bW];omega)⟩
 have K:0≤d∧d<4294967296:=by
  have b:=aW hd;rw[eV,bE]at b;rcases b with h|h
  ·exact I d h
  omega
 have J:arr[(k:Int).toNat]?=some d:=by
  rw[cA,g k (by omega)];rcases qD k T.length with e|e
  ·rw[l.eq k e,←hd,fC e]
  obtain rfl:k=T.length:=by omega
  rw[l.z _ (aZ _) (by omega),←hd];simp
 have p:=LV hd;rw[←eF Af];refine E0 H L K J (fun j a=>by rw[g _ (by omega)];exact l.tab j a) b fun P C t=> .nil ⟨by show i+1+y.length<cx.fuel;omega,d,o,Q,P,vT (k:Int) d (zK T k).1,uZ (LW T k),C,i+1+y.length+1,by simp [vT], ?_,t.len,fun j a=>by rw[t.low j a,g j a], ?_,fun e=>?_,by omega, ?_, ?_⟩
 ·intro j a
  have n:(vT (k:Int) d (zK T k).1).length=4:=rfl;rw[n];exact t.w j a
 ·unfold LW
  rw[p,←bV,Ur (Nz T++(zK T k).2)]
 ·rw[show k=T.length by omega]
 ·rw[p]
  exact UZ b
 have n:(vT (k:Int) d (zK T k).1).length=4:=rfl;have D:gR ((k:Int)+1)=((k+1:Nat):Int):=by rw[eL (by omega)];omega
 have E:(4004 -((4:Nat):Int))=4000:=rfl;rw[n,E,D,p];rfl
theorem MG {cx:Cx} {g:dE→Bool×Int} (H:pD g) {t:dE} (A:cx.inp=t) (y:t.length≤2500) (F:7 *t.length+50<cx.fuel) {T:List Int} {E:Int} (f:yC t ([],0)=some (T,E)) (z: ∀x∈T,0≤x∧x<4294967296):
  Wp cx g yK (jX 0 0 0 0 0 0 0 0 0 0 (List.replicate 4096 0) 0 [] 0) (fun s=>s.out=uZ (Tv T)∧s.ticks≤7 *t.length+50):=by
 have c:T.length=t.length:=by have:=P9 f;simpa using this
 unfold yK;refine HK H ?_;refine HI H A y (by omega) f fun o x arr b=>?_;have a:=b.len;unfold VX;simp only[cU,cC];refine H.st .num .num (by rw[a];decide) ?_;refine H.st .num (.op H.vn .num (UL _ _)) (by rw[dK,a];decide) ?_;refine H.st .num .num (by rw[dK,dK,a];decide) ?_;refine H.wi .num ?_;refine H.ws .num ?_;rw[eL (by omega)];have p:(4001:Int).toNat=4001:=rfl;have u:(4002:Int).toNat=4002:=rfl;have v:(4003:Int).toNat=4003:=rfl;rw[p,u,v]
 have B: ∀j,j<4000→(((arr.set 4001 1145390419).set 4002 ((t.length:Int) *4)).set 4003 4224)[j]?=arr[j]?:=fun j d=>by
  rw[gX (by rw[dK,dK];omega),aO (by omega),gX (by rw[dK];omega),aO (by omega),gX (by omega),aO (by omega)]
 have C:PW (((arr.set 4001 1145390419).set 4002 ((t.length:Int) *4)).set 4003 4224) (Nz T):=by
  intro j d;simp only[Nz,aJ,aT]at d⊢;rw[gX (by rw[dK,dK];omega),gX (by rw[dK];omega),gX (by omega)];have :j=0∨j=1∨j=2:=by omega
  rcases this with rfl|rfl|rfl
  ·rfl
  ·rw[c,Int.mul_comm];rfl
  rfl
 refine(HJ H b (by omega) z (tk0:=t.length+1) rfl (by omega) ⟨256,o,x,0,Nz T,[],((arr.set 4001 1145390419).set 4002 ((t.length:Int) *4)).set 4003 4224,t.length+1+1,by simp [Nz],C,by rw[dK,dK,dK,a],B, ?_,fun e=>by omega,by omega,by rw[show zK T 0=(PL,[])by unfold zK;rw[gN];rfl];decide, ?_⟩).imp fun s D=>⟨D.1,by omega⟩
 ·have e:LW T 0=Nz T:=by unfold LW zK;rw[gN];show Nz T++[]=_;rw[eF]
  rw[e,cC]
 have i:zK T 0=(PL,[]):=by unfold zK;rw[gN];rfl
 have k:(Nz T).length=3:=rfl;have l:(4004 -((3:Nat):Int))=4001:=rfl;have n:((0:Nat):Int)=0:=rfl;rw[i,k,l,n,c];rfl
def gB (o a b c:Int):Int:=o *16777216+a *1048576+b *65536+c
def zM (d X e:Int):List Int:=[gB 16 2 0 (d+1),gB 16 1 0 d,X,gB 17 1 0 (e+1)]
abbrev zl (d m:Int):Zs:=⟨d,1880096768,m⟩
theorem PK {q c d s m A:Int} (u:vF c=A) (v:0≤A∧A<4294967296) (l: ¬gR (c- 48)<10) (j: ¬c=32) (t: ¬gR (c- 97)<26) (n: ¬c=58) (o: ¬c=64) (p: ¬c=87) (k: ¬c=35) (hd:0≤d∧d≤200) (g:2≤A/536870912+d):
  vT q c ⟨d,s,m⟩=zM d (A % 536870912) (d+A/536870912 - 2)∧Bn q c ⟨d,s,m⟩=⟨d+A/536870912 - 2,s,m⟩:=by
 have a:gR (270532609+d)=gB 16 2 0 (d+1):=by rw[eL (by omega)];simp only[gB];omega
 have b:gR (269484032+d)=gB 16 1 0 d:=by rw[eL (by omega)];simp only[gB];omega
 have e:gR (d+A/536870912)=d+A/536870912:=eL (by omega);have f:gR (d+A/536870912 - 2)=d+A/536870912 - 2:=eL (by omega);have i:gR (286261249+(d+A/536870912 - 2))=gB 17 1 0 (d+A/536870912 - 2+1):=by rw[eL (by omega)];simp only[gB];omega
 simp only[vT,Bn,BZ,zd,U8,CB,Ni,A5,L6,A6,BV,Nj,Vk,aO l,aO j,aO t,aO n,aO o,aO p,aO k,u,a,b,e,f,i,zM];trivial
theorem L8 {q c d s m:Int} (u:48≤c∧c≤57) (hd:0≤d∧d≤200) (v:0≤m∧m *10+(c- 48)<4294967296):
  vT q c ⟨d,s,m⟩=zM d (gB 3 1 2 0) d∧Bn q c ⟨d,s,m⟩=⟨d,s,m *10+(c- 48)⟩:=by
 have t:vF c=1125253120:=by
  have :c=48∨c=49∨c=50∨c=51∨c=52∨c=53∨c=54∨c=55∨c=56∨c=57:=by omega
  rcases this with rfl|rfl|rfl|rfl|rfl|rfl|rfl|rfl|rfl|rfl<;>decide
 have k:gR (c- 48)<10:=by rw[eL (by omega)];omega
 have p: ¬gR (c- 97)<26:=by show ¬IntKind.wrap .u32 _<26;rw[IntKind.wrap_u32];omega
 have i: ¬c=32:=by omega
 have l: ¬c=58:=by omega
 have n: ¬c=64:=by omega
 have o: ¬c=87:=by omega
 have j: ¬c=35:=by omega
 have a:gR (gR (m *10)+gR (c- 48))=m *10+(c- 48):=by rw[eL (x:=m *10) (by omega),eL (x:=c- 48) (by omega),eL (by omega)]
 have b:gR (270532609+d)=gB 16 2 0 (d+1):=by rw[eL (by omega)];simp only[gB];omega
 have e:gR (269484032+d)=gB 16 1 0 d:=by rw[eL (by omega)];simp only[gB];omega
 have f:gR (gR (d+1125253120/536870912)- 2)=d:=by rw[eL (x:=d+1125253120/536870912) (by omega),eL (by omega)];omega
 have g:gR (286261249+d)=gB 17 1 0 (d+1):=by rw[eL (by omega)];simp only[gB];omega
 simp only[vT,Bn,BZ,zd,U8,CB,Ni,A5,L6,A6,BV,Nj,Vk,bF k,aO i,aO p,aO l,aO n,aO o,aO j,t,a,b,e,f,g,zM];exact⟨rfl,trivial⟩
theorem CE {q d s m:Int} (hd:0≤d∧d≤200) (n:0≤m∧m<4294967296):
  vT q 32 ⟨d,s,m⟩=[gB 16 2 0 (d+1),gB 1 1 0 (m % 65536),gB 2 1 0 (m/65536),gB 17 1 0 (d+1+1)]∧Bn q 32 ⟨d,s,m⟩=⟨d+1,s,0⟩:=by
 have l:vF 32=1645215744:=by decide
 have j: ¬gR (32 - 48)<10:=by decide
 have k: ¬gR (32 - 97)<26:=by decide
 have a:gR (270532609+d)=gB 16 2 0 (d+1):=by rw[eL (by omega)];simp only[gB];omega
 have b:gR (17825792+m % 65536)=gB 1 1 0 (m % 65536):=by rw[eL (by omega)];simp only[gB];omega
 have c:gR (1645215744+m/65536)=1645215744+m/65536:=eL (by omega);have e:(1645215744+m/65536)/536870912=3:=by omega
 have g:(1645215744+m/65536) % 536870912=gB 2 1 0 (m/65536):=by simp only[gB];omega
 have i:gR (gR (d+3)- 2)=d+1:=by rw[eL (x:=d+3) (by omega),eL (by omega)];omega
 have f:gR (286261249+(d+1))=gB 17 1 0 (d+1+1):=by rw[eL (by omega)];simp only[gB];omega
 simp only[vT,Bn,BZ,zd,U8,CB,Ni,A5,L6,A6,BV,Nj,Vk,aO j,aO k,l,a,b,c,e,f,g,i,cQ,aO (show ¬(32:Int)=87 by decide),aO (show ¬(32:Int)=58 by decide),aO (show ¬(32:Int)=64 by decide),aO (show ¬(32:Int)=35 by decide)];trivial
theorem PI {q c d s m S g:Int} (z:97≤c∧c≤122) (hd:0≤d∧d≤200) (C:s=S+g *536870912) (y:0≤S∧S<536870000) (A:0≤g∧g≤3) (B:2≤g+d):
  vT q c ⟨d,s,m⟩=zM d (S+c) (d+g- 2)∧Bn q c ⟨d,s,m⟩=zl (d+g- 2) m:=by
 have o: ¬gR (c- 48)<10:=by rw[eL (by omega)];omega
 have v:gR (c- 97)<26:=by rw[eL (by omega)];omega
 have l: ¬c=32:=by omega
 have p: ¬c=58:=by omega
 have t: ¬c=64:=by omega
 have u: ¬c=87:=by omega
 have n: ¬c=35:=by omega
 have a:gR (s+c)=s+c:=eL (by omega);have b:gR (270532609+d)=gB 16 2 0 (d+1):=by rw[eL (by omega)];simp only[gB];omega
 have e:gR (269484032+d)=gB 16 1 0 d:=by rw[eL (by omega)];simp only[gB];omega
 have f:(s+c)/536870912=g:=by omega
 have k:(s+c) % 536870912=S+c:=by omega
 have i:gR (gR (d+g)- 2)=d+g- 2:=by rw[eL (x:=d+g) (by omega),eL (by omega)]
 have j:gR (286261249+(d+g- 2))=gB 17 1 0 (d+g- 2+1):=by rw[eL (by omega)];simp only[gB];omega
 simp only[vT,Bn,BZ,zd,U8,CB,Ni,A5,L6,A6,BV,Nj,Vk,aO o,aO l,bF v,aO p,aO t,aO u,aO n,a,b,e,f,i,j,k,zM];trivial
theorem RI {q c d m:Int} (a:97≤c∧c≤122) (hd:0≤d∧d≤200):vT q c (zl d m)=zM d (gB 16 1 0 c) (d+1)∧Bn q c (zl d m)=zl (d+1) m:=by
 have:=PI (q:=q) (m:=m) (S:=269484032) (g:=3) (s:=1880096768) a hd (by decide) (by decide) (by decide) (by omega);rw[show d+3 - 2=d+1 by omega,show 269484032+c=gB 16 1 0 c by simp only[gB];omega]at this;exact this
theorem RG {q c d m:Int} (a:97≤c∧c≤122) (hd:1≤d∧d≤200):vT q c ⟨d,824180736,m⟩=zM d (gB 17 2 0 c) (d- 1)∧Bn q c ⟨d,824180736,m⟩=zl (d- 1) m:=by
 have:=PI (q:=q) (m:=m) (S:=287309824) (g:=1) (s:=824180736) a (d:=d) (by omega) (by decide) (by decide) (by decide) (by omega);rw[show d+1 - 2=d- 1 by omega,show 287309824+c=gB 17 2 0 c by simp only[gB];omega]at this;exact this
theorem Vm {q d m:Int} (hd:0≤d∧d≤200):vT q 58 (zl d m)=zM d (gB 3 1 2 0) d∧Bn q 58 (zl d m)=⟨d,824180736,m⟩:=by
 have i:vF 58=1125253120:=by decide
 have f: ¬gR (58 - 48)<10:=by decide
 have g: ¬gR (58 - 97)<26:=by decide
 have a:gR (270532609+d)=gB 16 2 0 (d+1):=by rw[eL (by omega)];simp only[gB];omega
 have b:gR (269484032+d)=gB 16 1 0 d:=by rw[eL (by omega)];simp only[gB];omega
 have c:gR (gR (d+1125253120/536870912)- 2)=d:=by rw[eL (x:=d+1125253120/536870912) (by omega),eL (by omega)];omega
 have e:gR (286261249+d)=gB 17 1 0 (d+1):=by rw[eL (by omega)];simp only[gB];omega
 simp only[vT,Bn,BZ,zd,U8,CB,Ni,A5,L6,A6,BV,Nj,Vk,aO f,aO g,i,a,b,c,e,zM,cQ,aO (show ¬(58:Int)=87 by decide),aO (show ¬(58:Int)=32 by decide),aO (show ¬(58:Int)=64 by decide),aO (show ¬(58:Int)=35 by decide)];exact⟨rfl,trivial⟩
theorem RJ {q d m:Int} (hd:0≤d∧d≤200):vT q 64 (zl d m)=[gB 16 2 0 (d+1),gB 25 2 0 4096,gB 16 1 2 128,gB 17 1 0 (d+1)]∧Bn q 64 (zl d m)=zl d m:=by
 have g:vF 64=1343357056:=by decide
 have e: ¬gR (64 - 48)<10:=by decide
 have f: ¬gR (64 - 97)<26:=by decide
 have a:gR (270532609+d)=gB 16 2 0 (d+1):=by rw[eL (by omega)];simp only[gB];omega
 have b:gR (gR (d+1343357056/536870912)- 2)=d:=by rw[eL (x:=d+1343357056/536870912) (by omega),eL (by omega)];omega
 have c:gR (286261249+d)=gB 17 1 0 (d+1):=by rw[eL (by omega)];simp only[gB];omega
 simp only[zl,vT,Bn,BZ,zd,U8,Ni,A5,L6,A6,BV,Nj,Vk,aO e,aO f,g,a,b,c,cQ,aO (show ¬(64:Int)=87 by decide),aO (show ¬(64:Int)=32 by decide),aO (show ¬(64:Int)=58 by decide),aO (show ¬(64:Int)=35 by decide)];exact⟨rfl,trivial⟩
theorem B0 {q d m:Int} (hd:2≤d∧d≤200):vT q 35 (zl d m)=[gB 16 2 0 (d+1),gB 16 1 0 d,gB 25 1 0 4096,gB 17 2 1 128]∧Bn q 35 (zl d m)=zl (d- 2) m:=by
 have g:vF 35=420483072:=by decide
 have e: ¬gR (35 - 48)<10:=by decide
 have f: ¬gR (35 - 97)<26:=by decide
 have a:gR (270532609+d)=gB 16 2 0 (d+1):=by rw[eL (by omega)];simp only[gB];omega
 have b:gR (269484032+d)=gB 16 1 0 d:=by rw[eL (by omega)];simp only[gB];omega
 have c:gR (gR (d+420483072/536870912)- 2)=d- 2:=by rw[eL (x:=d+420483072/536870912) (by omega),eL (by omega)];omega
 simp only[zl,vT,Bn,BZ,zd,U8,CB,Ni,A5,L6,A6,BV,Nj,Vk,aO e,aO f,g,a,b,c,cQ,aO (show ¬(35:Int)=87 by decide),aO (show ¬(35:Int)=32 by decide),aO (show ¬(35:Int)=58 by decide),aO (show ¬(35:Int)=64 by decide)];exact⟨rfl,trivial⟩
theorem Vl {q d m:Int} (l:0≤q∧q≤3000) (hd:0≤d∧d≤200):vT q 87 (zl d m)=zM d (gB 1 1 0 (4 *q)) (d+1)∧Bn q 87 (zl d m)=zl (d+1) m:=by
 have a: ¬gR (87 - 48)<10:=by decide
 have b: ¬gR (87 - 97)<26:=by decide
 have e:gR (270532609+d)=gB 16 2 0 (d+1):=by rw[eL (by omega)];simp only[gB];omega
 have f:gR (269484032+d)=gB 16 1 0 d:=by rw[eL (by omega)];simp only[gB];omega
 have c:gR (1628438528+gR (q *4))=1628438528+q *4:=by rw[eL (x:=q *4) (by omega),eL (by omega)]
 have g:(1628438528+q *4)/536870912=3:=by omega
 have k:(1628438528+q *4) % 536870912=gB 1 1 0 (4 *q):=by simp only[gB];omega
 have i:gR (gR (d+3)- 2)=d+1:=by rw[eL (x:=d+3) (by omega),eL (by omega)];omega
 have j:gR (286261249+(d+1))=gB 17 1 0 (d+1+1):=by rw[eL (by omega)];simp only[gB];omega
 simp only[*,zl,vT,Bn,BZ,zd,U8,CB,Ni,A6,BV,Nj,Vk,aO a,aO b,zM,cQ,aO (show ¬(87:Int)=58 by decide),aO (show ¬(87:Int)=32 by decide),aO (show ¬(87:Int)=64 by decide),aO (show ¬(87:Int)=35 by decide)];trivial
theorem Nk {q d m n:Int} (e:0≤n∧n≤3000) (hd:1≤d∧d≤200):vT q (857735172+4 *n) (zl d m)=zM d (gB 19 2 0 (4 *n+4)) (d- 1)∧Bn q (857735172+4 *n) (zl d m)=zl (d- 1) m:=by
 have c:vF (857735172+4 *n)=857735172+4 *n:=by
  have a:Gl (857735172+4 *n)=857735172+4 *n:=aO (by omega);have b:Bg (857735172+4 *n)=857735172+4 *n:=by unfold Bg;rw[a,aO (by omega)]
  unfold vF;rw[b,aO (by omega)]
 have:=PK (q:=q) (d:=d) (s:=1880096768) (m:=m) c (by omega) (by rw[eL (by omega)];omega) (by omega) (by rw[eL (by omega)];omega) (by omega) (by omega) (by omega) (by omega) (by omega) (by omega);rw[show(857735172+4 *n)/536870912=1 by omega,show d+1 - 2=d- 1 by omega,show(857735172+4 *n) % 536870912=gB 19 2 0 (4 *n+4)by simp only[gB];omega]at this;exact this
theorem pS {c A X g:Int} (f:vF c=A) (i:A=X+g *536870912) (k:(0≤X∧X<536870912)∧(0≤g∧g≤3)) (b: ¬gR (c- 48)<10) (e: ¬gR (c- 97)<26) (a: ¬c=32∧ ¬c=58∧ ¬c=64∧ ¬c=87∧ ¬c=35) {q d m:Int} (hd:0≤d∧d≤200) (j:2≤g+d):vT q c (zl d m)=zM d X (d+g- 2)∧Bn q c (zl d m)=zl (d+g- 2) m:=by
 have:=PK (q:=q) (d:=d) (s:=1880096768) (m:=m) f (by omega) b a.1 e a.2.1 a.2.2.1 a.2.2.2.1 a.2.2.2.2 hd (by omega);rw[show A/536870912=g by omega,show A % 536870912=X by omega]at this;exact this
theorem RH {o:Int} (h:4≤o∧o≤15): ∃c:UInt8,Go.Proofs.YtaecpjgmcffliaaGreatDoor.opS[(o- 4).toNat]?=some c∧ ∀{q d m:Int},1≤d∧d≤200→vT q (c.toNat:Int) (zl d m)=zM d (gB o 1 1 2) (d- 1)∧Bn q (c.toNat:Int) (zl d m)=zl (d- 1) m:=by
 have :o=4∨o=5∨o=6∨o=7∨o=8∨o=9∨o=10∨o=11∨o=12∨o=13∨o=14∨o=15:=by omega
 have i: ∀{o:Int} {c:UInt8},vF (c.toNat:Int)=gB o 1 1 2+1 *536870912→0≤gB o 1 1 2∧gB o 1 1 2<536870912→ ¬gR ((c.toNat:Int)- 48)<10→ ¬gR ((c.toNat:Int)- 97)<26→(¬(c.toNat:Int)=32∧ ¬(c.toNat:Int)=58∧ ¬(c.toNat:Int)=64∧ ¬(c.toNat:Int)=87∧ ¬(c.toNat:Int)=35)→ ∀{q d m:Int},1≤d∧d≤200→vT q (c.toNat:Int) (zl d m)=zM d (gB o 1 1 2) (d- 1)∧Bn q (c.toNat:Int) (zl d m)=zl (d- 1) m:=by
  intro o c a b e f g q d m hd;have:=pS (q:=q) (m:=m) (d:=d) a rfl ⟨b,by decide⟩ e f g (by omega) (by omega);rw[show d+1 - 2=d- 1 by omega]at this;exact this
 rcases this with rfl|rfl|rfl|rfl|rfl|rfl|rfl|rfl|rfl|rfl|rfl|rfl<;>exact⟨_,rfl,i (by decide) (by decide) (by decide) (by decide) (by decide)⟩
mutual
def cE (rs:dE→Bool×Int):Ex→List AV
 | .mk k o n s l=>[.int .i64 k, .int .i64 o, .int .u32 n, .bool (rs s).1, .int .i64 (rs s).2, .isl 6 (YZ rs l)]
def YZ (rs:dE→Bool×Int):List Ex→List (List AV)
 |[]=>[]
 |e::l=>cE rs e::YZ rs l
end
mutual
def cS (rs:dE→Bool×Int):Sm→List AV
 | .mk k s l t u=>[.int .i64 k, .bool (rs s).1, .int .i64 (rs s).2, .isl 6 (l.map (cE rs)), .isl 6 (YR rs t), .isl 6 (YR rs u)]
def YR (rs:dE→Bool×Int):List Sm→List (List AV)
 |[]=>[]
 |e::l=>cS rs e::YR rs l
end
def Cf.row (f:Cf):List AV:=[.int .i64 f.words, .isl 6 (f.body.map (cS f.res))]
def gI (n:Int):List AV:=[.int .u32 n]
def rJ (c:UInt8):List AV:=[.int .u8 c.toNat]
def fR:List Nat→List (List Int)→List (List AV)
 |b::bs,l::ls=>[.osl 1 b l.length]::fR bs ls
 |_,_=>[]
theorem wX: ∀(a:List Nat) (c:List (List Int)) (i:Nat) b l,a[i]?=some b→c[i]?=some l→(fR a c)[i]?=some [.osl 1 b l.length]
 |[],_,i,b,l,h,_=>by simp at h
 |b0::a,[],i,b,l,_,h=>by simp at h
 |b0::a,l0::c,0,b,l,h,h'=>by
  simp only[dJ,Option.some.injEq]at h h';subst h;subst h';simp [fR]
 |b0::a,l0::c,i+1,b,l,h,h'=>by
  simp only[fB]at h h';simp only[fR,fB];exact wX a c i b l h h'
theorem wW: ∀(a:List Nat) (c:List (List Int)) (i:Nat) (f:List Int→List Int),(∀l,(f l).length=l.length)→fR a (c.modify i f)=fR a c
 |[],c,i,f,_=>by simp [fR]
 |b::a,[],i,f,_=>by simp [fR]
 |b::a,l::c,0,f,h=>by simp [fR,h]
 |b::a,l::c,i+1,f,h=>by simp [fR,wW a c i f h]
theorem Fg: ∀(c:List Nat) (a:List (List Int)),c.length=a.length→(fR c a).length=a.length
 |[],[],_=>rfl
 |b::c,l::a,h=>by simp [fR,Fg c a (by simpa using h)]
 |[],_::_,h=>by simp at h
 |_::_,[],h=>by simp at h
structure nX (cx:Cx) (br bv:Nat) (abs:List Nat) (st:RS) (vo:AV) (H:Hp):Prop where
 r:H br=some (.rows 8 [[.isl 2 (cx.funs.map Cf.row), .osl 1 bv st.vars.length, .isl 1 (fR abs st.arrs), .str cx.inp, .int .i64 st.read,vo, .int .i64 st.ticks, .int .i64 cx.fuel]])
 v:H bv=some (.rows 1 (st.vars.map gI))
 al:abs.length=st.arrs.length
 a: ∀(i:Nat) b l,abs[i]?=some b→st.arrs[i]?=some l→H b=some (.rows 1 (l.map gI))
 nd:abs.Nodup
 va:bv∉abs
 o:dZ 1 vo (st.out.map rJ) H
 ov:off vo bv
 oa: ∀b∈abs,off vo b
 uv: ∀x∈st.vars,dQ x
 ua: ∀l∈st.arrs,l.length≤4096∧ ∀x∈l,dQ x
 ub:st.out.length≤65536
 rd:st.read≤cx.inp.length
 tk:st.ticks≤cx.fuel
def kJ (br bv:Nat) (abs:List Nat) (vo vo':AV) (H H':Hp):Prop:= ∀b o,H b=some o→b≠br→b≠bv→b∉abs→off vo b→H' b=some o∧off vo' b
def rO (br bv:Nat) (abs:List Nat) (vo vo':AV) (bo:Nat) (H H':Hp):Prop:= ∀b o,H b=some o→b≠br→b≠bv→b∉abs→off vo b→b≠bo→H' b=some o∧off vo' b
structure Bj (bv:Nat) (abs:List Nat) (vo:AV) (b:Nat) (rows:List (List AV)) (H:Hp):Prop where
 h:H b=some (.rows 1 rows)
 nv:b≠bv
 na:b∉abs
 nf:off vo b
theorem kJ.refl (br bv:Nat) (abs:List Nat) (vo:AV) (H:Hp):kJ br bv abs vo vo H H:=fun _ _ h _ _ _ a=>⟨h,a⟩
theorem kJ.trans {br bv:Nat} {abs:List Nat} {vo e f:AV} {H H1 H2:Hp} (h:kJ br bv abs vo e H H1) (j:kJ br bv abs e f H1 H2):kJ br bv abs vo f H H2:=fun b o l a c d k=>by
 obtain⟨g,i⟩:=h b o l a c d k;exact j b o g a c d i
theorem kJ.s {br bv:Nat} {abs:List Nat} {vo a:AV} {H H1:Hp} (h:kJ br bv abs vo a H H1) (c:Nat):rO br bv abs vo a c H H1:=fun b o i d e f g _=>h b o i d e f g
theorem rO.trans {br bv a:Nat} {abs:List Nat} {vo g i:AV} {H H1 H2:Hp} (h:rO br bv abs vo g a H H1) (l:rO br bv abs g i a H1 H2):rO br bv abs vo i a H H2:=fun b o p c d e n f=>by
 obtain⟨j,k⟩:=h b o p c d e n f;exact l b o j c d e k f
theorem kJ.updN {br bv:Nat} {abs:List Nat} {vo d:AV} {H H1:Hp} (h:kJ br bv abs vo d H H1) {b:Nat} (n:H b=none) (o:Option iG):kJ br bv abs vo d H (Go.Al.upd H1 b o):=fun c p a i j k l=>by
 obtain⟨f,g⟩:=h c p a i j k l;have :c≠b:=fun e=>by rw[e,n]at a;cases a
 exact⟨by rw[cG _ _ this];exact f,g⟩
theorem rO.new {br bv a:Nat} {abs:List Nat} {vo d:AV} {H H1:Hp} {o:Option iG} (k:H a=none) (h:rO br bv abs vo d a (Go.Al.upd H a o) H1):kJ br bv abs vo d H H1:=fun b l c f g i j=>by
 have :b≠a:=fun e=>by rw[e,k]at c;cases c
 exact h b l (by rw[cG _ _ this];exact c) f g i j this
theorem kJ.new {br bv a:Nat} {abs:List Nat} {vo b:AV} {H H1:Hp} {o:Option iG} (c:H a=none) (h:kJ br bv abs vo b (Go.Al.upd H a o) H1):kJ br bv abs vo b H H1:=rO.new c (h.s a)
section
variable {cx : Cx} {br bv : Nat} {abs : List Nat} {st : RS} {vo : AV} {H : Hp}
theorem nX.nbr (h:nX cx br bv abs st vo H) {b:Nat} {l:List (List AV)} (a:H b=some (.rows 1 l)):b≠br:=fun e=>by rw[e,h.r]at a;cases a
theorem Bj.keep {b:Nat} {rows:List (List AV)} (h:Bj bv abs vo b rows H) (f:nX cx br bv abs st vo H) {a:AV} {H':Hp} (e:kJ br bv abs vo a H H'):Bj bv abs a b rows H':=by
 obtain⟨c,d⟩:=e b _ h.h (f.nbr h.h) h.nv h.na h.nf;exact⟨c,h.nv,h.na,d⟩
theorem nX.abs_some (h:nX cx br bv abs st vo H) {b:Nat} (d:b∈abs):H b≠none:=by
 obtain⟨i,c⟩:=gO d;have e:i<st.arrs.length:=by have:=(bD.1 c).1;rw[←h.al];exact this
 rw[h.a i b _ c (aC e)];exact bY _
theorem nX.new (h:nX cx br bv abs st vo H) {b:Nat} (c:H b=none) (o:Option iG):nX cx br bv abs st vo (upd H b o):=by
 have j:br≠b:=fun e=>by have:=h.r;rw[e,c]at this;cases this
 have k:bv≠b:=fun e=>by have:=h.v;rw[e,c]at this;cases this
 refine {h with r:=by rw[cG _ _ j];exact h.r,v:=by rw[cG _ _ k];exact h.v,a:=fun i d l f g=>?_,o:=h.o.upd c o};have n:d≠b:=fun e=>h.abs_some (aW f) (by rw[e,c]);rw[cG _ _ n];exact h.a i d l f g
theorem nX.fresh (h:nX cx br bv abs st vo H) {b:Nat} (a:H b=none) (rows:List (List AV)):Bj bv abs vo b rows (upd H b (some (.rows 1 rows))):=
 ⟨bO _ _ _,(fun e=>by have:=h.v;rw[←e,a]at this;cases this),(fun e=>h.abs_some e a),h.o.new a⟩
theorem Bj.new {b a:Nat} {rows:List (List AV)} (h:Bj bv abs vo b rows H) (c:H a=none) (o:Option iG):Bj bv abs vo b rows (upd H a o):=
 ⟨by rw[cG _ _ (fun e=>by have:=h.h;rw[e,c]at this;cases this)];exact h.h,h.nv,h.na,h.nf⟩
theorem nX.own (h:nX cx br bv abs st vo H) {b:Nat} {rows:List (List AV)} (c:Bj bv abs vo b rows H) (o:Option iG):nX cx br bv abs st vo (upd H b o):=by
 have j:br≠b:=fun e=>h.nbr c.h e.symm;have k:bv≠b:=fun e=>c.nv e.symm;refine {h with r:=by rw[cG _ _ j];exact h.r,v:=by rw[cG _ _ k];exact h.v,a:=fun i d l f g=>?_,o:=h.o.off c.nf o};have n:d≠b:=fun e=>c.na (e▸aW f);rw[cG _ _ n];exact h.a i d l f g
theorem Bj.set {b:Nat} {rows a:List (List AV)} (h:Bj bv abs vo b rows H):Bj bv abs vo b a (upd H b (some (.rows 1 a))):=⟨bO _ _ _,h.nv,h.na,h.nf⟩
theorem rO.set {c:AV} {b:Nat} {H':Hp} (h:rO br bv abs vo c b H H') (o:Option iG):rO br bv abs vo c b H (upd H' b o):=fun d n l g i j k a=>by
 obtain⟨e,f⟩:=h d n l g i j k a;exact⟨by rw[cG _ _ a];exact e,f⟩
theorem nX.same {H':Hp} (h:nX cx br bv abs st vo H) (a: ∀b,H' b=H b):nX cx br bv abs st vo H':=by
 have :H'=H:=funext a;rw[this];exact h
theorem nX.turn (h:nX cx br bv abs st vo H) {st':RS} (f:st'.vars=st.vars) (b:st'.arrs=st.arrs) (e:st'.out=st.out) (n:st'.read≤cx.inp.length) (p:st'.ticks≤cx.fuel):
  nX cx br bv abs st' vo (upd H br (some (.rows 8 [[.isl 2 (cx.funs.map Cf.row), .osl 1 bv st'.vars.length, .isl 1 (fR abs st'.arrs), .str cx.inp, .int .i64 st'.read,vo, .int .i64 st'.ticks, .int .i64 cx.fuel]]))):=by
 have t:bv≠br:=h.nbr h.v;have k:off vo br:=h.o.offsz h.r (by decide);refine⟨bO _ _ _,by rw[cG _ _ t,f];exact h.v,by rw[b];exact h.al,fun i g l j c=>?_,h.nd,h.va,by rw[e];exact h.o.off k _,h.ov,h.oa,by rw[f];exact h.uv,by rw[b];exact h.ua,by rw[e];exact h.ub,n,p⟩;rw[b]at c;have d:=h.a i g l j c;rw[cG _ _ (h.nbr d)];exact d
theorem kJ.run (o:Option iG):kJ br bv abs vo vo H (upd H br o):=fun d e c a _ _ b=>⟨by rw[cG _ _ a];exact c,b⟩
theorem kJ.vars (o:Option iG):kJ br bv abs vo vo H (upd H bv o):=fun d e c _ a _ b=>⟨by rw[cG _ _ a];exact c,b⟩
theorem kJ.arr {b:Nat} (d:b∈abs) (o:Option iG):kJ br bv abs vo vo H (upd H b o):=fun g i f _ _ a c=>⟨by rw[cG _ _ (fun e=>a (by rw[e];exact d))];exact f,c⟩
theorem rE (l:List Int) (i:Nat) (v:Int):(l.map gI).set i [.int .u32 v]=(l.set i v).map gI:=by rw[List.map_set];rfl
theorem nX.setV (h:nX cx br bv abs st vo H) (i:Nat) (v:Int) (g:dQ v):nX cx br bv abs {st with vars:=st.vars.set i v} vo (upd H bv (some (.rows 1 ((st.vars.map gI).set i [.int .u32 v])))):=by
 have j:br≠bv:=fun e=>h.nbr h.v e.symm;refine⟨?_,by rw[bO,rE],h.al,fun i d l c f=>?_,h.nd,h.va,h.o.off h.ov _,h.ov,h.oa,fun x b=>?_,h.ua,h.ub,h.rd,h.tk⟩
 ·rw[cG _ _ j,dK];exact h.r
 ·rw[cG _ _ (fun e=>h.va (by rw[←e];exact aW c))];exact h.a i d l c f
 rcases pR b with b|rfl
 ·exact h.uv x b
 exact g
theorem nX.setA (h:nX cx br bv abs st vo H) {i:Nat} {b:Nat} {l:List Int} (g:abs[i]?=some b) (z:st.arrs[i]?=some l) (j:Nat) (v:Int) (D:dQ v):nX cx br bv abs {st with arrs:=st.arrs.modify i fun l=>l.set j v} vo (upd H b (some (.rows 1 ((l.map gI).set j [.int .u32 v])))):=by
 have A:=aW g;have E:br≠b:=fun e=>h.nbr (h.a i b l g z) e.symm;have F:bv≠b:=fun e=>h.va (e▸A);refine⟨?_,by rw[cG _ _ F];exact h.v,by simp only[List.length_modify];exact h.al,fun d y n p c=>?_,h.nd,h.va,h.o.off (h.oa b A) _,h.ov,h.oa,h.uv,fun n B=>?_,h.ub,h.rd,h.tk⟩
 ·rw[cG _ _ E]
  simp only;rw[wW abs st.arrs i _ (fun l=>by simp)];exact h.r
 ·simp only[Vf]at c
  by_cases t:i=d
  ·subst t
   rw[g]at p;cases p;rw[z]at c;have c:l.set j v=n:=by simpa using c
   subst c;rw[bO,rE]
  have c:st.arrs[d]?=some n:=by simpa [aO t]using c
  have :y≠b:=fun e=>by
   subst e;exact t ((List.getElem?_inj (bD.1 g).1 h.nd).1 (g.trans p.symm))
  rw[cG _ _ this];exact h.a d y n p c
 obtain⟨d,k⟩:=gO B;rw[Vf]at k
 obtain⟨f,C,rfl⟩: ∃f,st.arrs[d]?=some f∧(if i=d then f.set j v else f)=n:=by
  cases hq:st.arrs[d]? with
  |none=>rw[hq]at k;simp at k
  |some f=>rw[hq]at k;exact⟨f,rfl,by simpa using k⟩
 have:=h.ua f (aW C);split
 ·refine⟨by simpa using this.1,fun x u=>?_⟩
  rcases pR u with u|rfl
  ·exact this.2 x u
  exact D
 exact this
end
structure PD (cx:Cx):Prop where
 inp:cx.inp.length≤2000000
 fuel:cx.fuel<9223372036854775808
 words: ∀f∈cx.funs,f.words≤3000000
 body: ∀f∈cx.funs,zG f.body
theorem SC {a b:Int} (d:dQ a) (e:dQ b) (j: ¬b=0):dQ (a.tmod b):=by
 obtain⟨c,f⟩:=d;obtain⟨g,i⟩:=e;have:=Int.tmod_nonneg b c;have:=Int.tmod_lt_of_pos a (show 0<b by omega);exact⟨by omega,by omega⟩
theorem RO (n:Int):dQ (IntKind.wrap .u32 n):=by
 have h:IntKind.wrap .u32 n=n % 4294967296:=by simp [IntKind.wrap,IntKind.signed,IntKind.bits]
 rw[h];exact⟨Int.emod_nonneg _ (by decide),Int.emod_lt_of_pos _ (by decide)⟩
theorem VR {a:Int} (d:dQ a) (k:Nat):dQ (a.fdiv (2^k)):=by
 obtain⟨b,f⟩:=d;have e:(0:Int)<2^k:=Int.pow_pos (by decide);rw[pF _ (by omega)];have c:=Int.ediv_nonneg b (Int.le_of_lt e);have g:=Int.ediv_le_self (2^k) b;exact⟨c,by omega⟩
theorem VB {c:Prop} [Decidable c] {x y:Int} (h:c→dQ x) (b: ¬c→dQ y):dQ (if c then x else y):=by
 by_cases a:c
 ·rw[bF a];exact h a
 rw[aO a];exact b a
theorem Lh (op:Int) {a b:Int} (c:dQ a) (d:dQ b):dQ (eP op a b).1:=by
 unfold eP;generalize min b.toNat 32=k;have z:dQ 0:=by simp [dQ]
 have o:dQ 1:=by simp [dQ]
 simp only[apply_ite Prod.fst]
 repeat' refine VB (fun _=>?_) fun _=>?_
 all_goals first|exact RO _|exact z|exact o|exact SC c d ‹_› |exact VR c _
structure Mc where
 pc:Int
 r1:Int
 r2:Int
 mem:List Int
 rd:Nat
 out:dE
 st:Nat
def Mc.r (s:Mc) (a:Int):Int:=if a=1 then s.r1 else if a=2 then s.r2 else 0
def Mc.nx (s:Mc):Mc:={s with pc:=s.pc+1,st:=s.st+1}
def Mc.to (s:Mc) (p:Int):Mc:={s with pc:=p,st:=s.st+1}
def Mc.stp (s:Mc):Mc:={s with st:=s.st+1}
def Mc.set (s:Mc) (a x:Int):Option (Int×Mc):=if a=1 then some (0,{s.nx with r1:=x})else if a=2 then some (0,{s.nx with r2:=x})else none
def uG (inp:dE) (o a b c:Int) (s:Mc):Option (Int×Mc):=
 if o=1 then s.set a c
 else if o=2 then s.set a (s.r a % 65536+c *65536)
 else if o=3 then s.set a (s.r b)
 else if 4≤o∧o≤15 then(if(eP o (s.r b) (s.r c)).2=0 then s.set a (eP o (s.r b) (s.r c)).1 else some (2,s.stp))
 else if o=16 then(match s.mem[(gR (s.r b+c)).toNat]? with
  |some x=>s.set a x
  |none=>none)
 else if o=17 then(if(gR (s.r b+c)).toNat<s.mem.length then some (0,{s.nx with mem:=s.mem.set (gR (s.r b+c)).toNat (s.r a)})else none)
 else if o=19 then some (0,if s.r a=0 then s.to c else s.nx)
 else if o=22 then some (0,s.to (s.r a))
 else if o=23 then(match inp[s.rd]? with
  |some x=>({s with rd:=s.rd+1}:Mc).set a (x.toNat:Int)
  |none=>s.set a 256)
 else if o=24 then(if 65536≤s.out.length then some (4,s.stp)else some (0,{s.nx with out:=s.out++[UInt8.ofNat (IntKind.wrap .u8 (s.r a)).toNat]}))
 else if o=25 then(if s.r a<c then some (0,s.nx)else some (3,s.stp))
 else if o=26 then some (1,s.stp)
 else none
def nB (W:List Int) (inp:dE) (s:Mc):Option (Int×Mc):=
 if s.pc<0 then none else match W[s.pc.toNat]? with
  |some w=>uG inp (w/16777216) (w/1048576 % 16) (w/65536 % 16) (w % 65536) s
  |none=>none
inductive Go (W:List Int) (inp:dE):Nat→Mc→Mc→Prop where
 |nil (s:Mc):Go W inp 0 s s
 |step {k:Nat} {s s1 s2:Mc} (h:nB W inp s=some (0,s1)) (g:Go W inp k s1 s2):Go W inp (k+1) s s2
theorem Go.app {W:List Int} {inp:dE} {k j:Nat} {s s1 s2:Mc} (h:Go W inp k s s1) (g:Go W inp j s1 s2):Go W inp (k+j) s s2:=by
 induction h with
 |nil s=>rw[cD];exact g
 |step h _ ih=>rw[Nat.add_right_comm];exact .step h (ih g)
theorem Go.one {W:List Int} {inp:dE} {s s1:Mc} (h:nB W inp s=some (0,s1)):Go W inp 1 s s1:= .step h (.nil _)
def Fin (W:List Int) (inp:dE) (k:Nat) (s:Mc) (e:Int) (s':Mc):Prop:= ∃s1,Go W inp k s s1∧nB W inp s1=some (e,s')
theorem Fin.after {W:List Int} {inp:dE} {k j:Nat} {s s1 s':Mc} {e:Int} (h:Go W inp k s s1) (g:Fin W inp j s1 e s'):Fin W inp (k+j) s e s':=by
 obtain⟨c,a,b⟩:=g;exact⟨c,h.app a,b⟩
theorem mO {W:List Int} {inp:dE} {s:Mc} {o a b c:Int} {p:Nat} (e:s.pc=(p:Int)) (f:W[p]?=some (gB o a b c)) (h:(0≤o∧o≤200)∧(0≤a∧a≤15)∧(0≤b∧b≤15)∧(0≤c∧c≤65535)):nB W inp s=uG inp o a b c s:=by
 have g:gB o a b c/16777216=o:=by simp only[gB];omega
 have i:gB o a b c/1048576 % 16=a:=by simp only[gB];omega
 have j:gB o a b c/65536 % 16=b:=by simp only[gB];omega
 have k:gB o a b c % 65536=c:=by simp only[gB];omega
 unfold nB;rw[aO (by omega),e,cA,f];simp only[*]
def yF (W:List Int) (k:Nat) (l:List Int):Prop:= ∀i,i<l.length→W[k+i]?=l[i]?
theorem yF.app {W:List Int} {k:Nat} {a b:List Int} (h:yF W k (a++b)):yF W k a∧yF W (k+a.length) b:=by
 refine⟨fun i c=>?_,fun i c=>?_⟩
 ·rw[h i (by rw[aB];omega),fC c]
 rw[gJ,h (a.length+i) (by rw[aB];omega),gC (by omega),gY]
def Mc.m (s:Mc) (j:Nat):Int:=(s.mem[j]?).getD 0
theorem Mc.m_some {s:Mc} {j:Nat} {v:Int} (h:s.mem[j]?=some v):s.m j=v:=by unfold Mc.m;rw[h];rfl
theorem Mc.m_get {s:Mc} {j:Nat} (h:j<s.mem.length):s.mem[j]?=some (s.m j):=by unfold Mc.m;rw[aC h];rfl
section
variable {W : List Int} {inp : dE} {s : Mc} {q d : Nat}
theorem R1 {p x a:Nat} (c:s.pc=(p:Int)) (f:W[p]?=some (gB 16 a 0 x)) (b:a=1∨a=2) (i:x<300) (g:s.mem.length=4224):nB W inp s=some (0,if a=1 then {s.nx with r1:=s.m x}else {s.nx with r2:=s.m x}):=by
 rw[mO c f (by omega)];have e:gR (s.r 0+(x:Int))=(x:Int):=by show gR (0+(x:Int))=_;rw[Int.zero_add,eL (by omega)]
 simp only[uG,e,cA,Mc.m_get (s:=s) (show x<s.mem.length by omega)];rcases b with rfl|rfl<;>rfl
theorem WT {p x a:Nat} (b:s.pc=(p:Int)) (c:W[p]?=some (gB 17 a 0 x)) (f:a≤2) (i:x<300) (g:s.mem.length=4224):nB W inp s=some (0,{s.nx with mem:=s.mem.set x (s.r a)}):=by
 rw[mO b c (by omega)];have e:gR (s.r 0+(x:Int))=(x:Int):=by show gR (0+(x:Int))=_;rw[Int.zero_add,eL (by omega)]
 simp [uG,e,show x<s.mem.length by omega]
theorem Uc (j:s.pc=((4 *q:Nat):Int)) (g:W[4 *q]?=some (gB 16 2 0 ((d+1:Nat):Int))) (i:W[4 *q+1]?=some (gB 16 1 0 (d:Int))) (hd:d≤200) (f:s.mem.length=4224):
  Go W inp 2 s {s with pc:=((4 *q+2:Nat):Int),r1:=s.m d,r2:=s.m (d+1),st:=s.st+2}:=by
 have c:=R1 (inp:=inp) (a:=2) j g (.inr rfl) (by omega) f;rw[aO (by decide)]at c;have b:=R1 (W:=W) (inp:=inp) (s:={s.nx with r2:=s.m (d+1)}) (p:=4 *q+1) (a:=1) (x:=d) (by show s.pc+1=_;omega) i (.inl rfl) (by omega) f;rw[bF rfl]at b
 have e:({({s.nx with r2:=s.m (d+1)}:Mc).nx with r1:=({s.nx with r2:=s.m (d+1)}:Mc).m d}:Mc)={s with pc:=((4 *q+2:Nat):Int),r1:=s.m d,r2:=s.m (d+1),st:=s.st+2}:=by
  show Mc.mk (s.pc+1+1) _ _ _ _ _ _=_;rw[show s.pc+1+1=((4 *q+2:Nat):Int)by omega];rfl
 rw[e]at b;exact .step c (.one b)
theorem Ua {e:Nat} (f:s.pc=((4 *q+3:Nat):Int)) (b:W[4 *q+3]?=some (gB 17 1 0 ((e+1:Nat):Int))) (i:e≤200) (c:s.mem.length=4224):
  Go W inp 1 s {s with pc:=((4 *(q+1):Nat):Int),mem:=s.mem.set (e+1) s.r1,st:=s.st+1}:=by
 have g:=WT (inp:=inp) (a:=1) (x:=e+1) f b (by decide) (by omega) c
 have e:({s.nx with mem:=s.mem.set (e+1) (s.r ((1:Nat):Int))}:Mc)={s with pc:=((4 *(q+1):Nat):Int),mem:=s.mem.set (e+1) s.r1,st:=s.st+1}:=by
  show Mc.mk (s.pc+1) _ _ _ _ _ _=_;rw[show s.pc+1=((4 *(q+1):Nat):Int)by omega];rfl
 rw[e]at g;exact .one g
def Mc.hd (s:Mc) (q d:Nat):Mc:={s with pc:=((4 *q+2:Nat):Int),r1:=s.m d,r2:=s.m (d+1),st:=s.st+2}
theorem Qj {k e:Nat} {X:Int} (h:yF W k (zM (d:Int) X (e:Int))):W[k]?=some (gB 16 2 0 ((d+1:Nat):Int))∧W[k+1]?=some (gB 16 1 0 (d:Int))∧W[k+2]?=some X∧W[k+3]?=some (gB 17 1 0 ((e+1:Nat):Int)):=
 ⟨h 0 (by simp [zM]),h 1 (by simp [zM]),h 2 (by simp [zM]),h 3 (by simp [zM])⟩
theorem Je {o a b c:Int} {e:Nat} {s2:Mc} (B:yF W (4 *q) (zM (d:Int) (gB o a b c) (e:Int))) (A:(0≤o∧o≤200)∧(0≤a∧a≤15)∧(0≤b∧b≤15)∧(0≤c∧c≤65535)) (y:s.pc=((4 *q:Nat):Int)) (hd:d≤200) (u:e≤200) (v:s.mem.length=4224)
  (t:uG inp o a b c (s.hd q d)=some (0,s2)) (z:s2.pc=((4 *q+3:Nat):Int)) (x:s2.mem.length=4224):
  Go W inp 4 s {s2 with pc:=((4 *(q+1):Nat):Int),mem:=s2.mem.set (e+1) s2.r1,st:=s2.st+1}:=by
 obtain⟨j,k,l,n⟩:=Qj B;have f:=Uc (inp:=inp) y j k hd v;have g:nB W inp (s.hd q d)=some (0,s2):=by rw[mO (p:=4 *q+2) rfl l A];exact t
 have i:=Ua (inp:=inp) z n u x;exact(f.app (.one g)).app i
theorem An {o a b c:Int} {e:Nat} (n:yF W (4 *q) (zM (d:Int) (gB o a b c) (e:Int))) (l:(0≤o∧o≤200)∧(0≤a∧a≤15)∧(0≤b∧b≤15)∧(0≤c∧c≤65535)) (k:s.pc=((4 *q:Nat):Int)) (hd:d≤200) (j:s.mem.length=4224):
  Go W inp 2 s (s.hd q d)∧nB W inp (s.hd q d)=uG inp o a b c (s.hd q d):=by
 obtain⟨f,g,i,t⟩:=Qj n;exact⟨Uc (inp:=inp) k f g hd j,mO (p:=4 *q+2) rfl i l⟩
end
theorem Ab {l:List Int} {j:Nat} {v:Int} (h:l[j]?=some v):l.set j v=l:=by
 refine lJ fun i=>?_;rw[hJ];split
 ·rename_i e;subst e
  have:=(bD.1 h).1;rw[bF this,h]
 rfl
theorem nX.put {cx:Cx} {br bv:Nat} {abs:List Nat} {st:RS} {vo v':AV} {H H':Hp} (h:nX cx br bv abs st vo H) {c:UInt8} (hl:st.out.length<65536) (ho:dZ 1 v' (st.out.map rJ++[rJ c]) H')
  (hk: ∀b o,H b=some o→vo≠ .osl 1 b (st.out.map rJ).length→H' b=some o) (hg: ∀b,off vo b→H b≠none→off v' b):
  nX cx br bv abs {st with out:=st.out++[c]} v' (upd H' br (some (.rows 8 [[.isl 2 (cx.funs.map Cf.row), .osl 1 bv st.vars.length, .isl 1 (fR abs st.arrs), .str cx.inp, .int .i64 st.read,v', .int .i64 st.ticks, .int .i64 cx.fuel]])))∧
  kJ br bv abs vo v' H (upd H' br (some (.rows 8 [[.isl 2 (cx.funs.map Cf.row), .osl 1 bv st.vars.length, .isl 1 (fR abs st.arrs), .str cx.inp, .int .i64 st.read,v', .int .i64 st.ticks, .int .i64 cx.fuel]]))):=by
 have n2:bv≠br:=h.nbr h.v;have hob:off vo br:=h.o.offsz h.r (by decide);have hob':off v' br:=hg br hob (by rw[h.r];exact bY _);refine⟨⟨bO _ _ _, ?_,h.al,fun i b' l h1 h2=>?_,h.nd,h.va, ?_,hg bv h.ov (by rw[h.v];exact bY _),fun b hb=>hg b (h.oa b hb) (h.abs_some hb),h.uv,h.ua, ?_,h.rd,h.tk⟩,fun b o hb h1 h2 h3 h4=>⟨?_,hg b h4 (by rw[hb];exact bY _)⟩⟩
 ·rw[cG _ _ n2];exact hk _ _ h.v (h.ov _ _)
 ·have hb:=h.a i b' l h1 h2
  rw[cG _ _ (h.nbr hb)];exact hk _ _ hb (h.oa b' (aW h1) _ _)
 ·rw[cP]
  exact ho.off hob' _
 ·simp only[aB,bW];omega
 rw[cG _ _ h1];exact hk _ _ hb (h4 _ _)
theorem tH {l:List Int} {i:Nat} {x:Int} (h:l[i]?=some x):(l.map gI)[i]?=some [.int .u32 x]:=by rw[cT,h];rfl
theorem Bj.other {bv:Nat} {abs:List Nat} {vo:AV} {H:Hp} {b bo:Nat} {rows:List (List AV)} (h:Bj bv abs vo b rows H) (hne:b≠bo) (o:Option iG):Bj bv abs vo b rows (upd H bo o):=⟨by rw[cG _ _ hne];exact h.h,h.nv,h.na,h.nf⟩
structure Pl where
 name:dE
 loc:Bool
 num:Int
def vI:List Pl→dE→Option (Bool×Int)
 |[],_=>none
 |t::l,s=>if s=t.name then some (t.loc,t.num)else vI l s
def SK (b:Bool):Nat→List dE→List Pl
 |_,[]=>[]
 |i,s::l=>⟨s,b,i⟩::SK b (i+1) l
def kI (p:Pg):List Pl:=SK false 0 p.vars++SK false 0 (p.arrs.map Ar.name)++SK false 0 (p.funs.map Fu.name)
def Gv (f:Fu):List Pl:=SK true 0 (f.params++f.locs)
def Ij (G I:List Pl) (s:dE):Bool×Int:=match vI I s with |some r=>r|none=>(vI G s).getD (false,0)
def Gz (G:List Pl) (f:Fu):Cf:=⟨f.params.length+f.locs.length,Ij G (Gv f),f.body⟩
theorem Au: ∀l:List UInt8,qA (l.map rJ)=some l
 |[]=>rfl
 |c::l=>by
  have h:UInt8.ofNat ((c.toNat:Int).toNat)=c:=by simp
  simp only[cX,rJ,qA,Jr,h,bX];rw[Au l];rfl
theorem nX.seal {cx:Cx} {r v:Nat} {abs:List Nat} {st:RS} {vo:AV} {H:Hp} {E:kB} {N:Nat} {Q:fF} {c:Code} {fr:Fr} (f:nX cx r v abs st vo H)
  (h: ∀g d,(∀j,tR (fr j)=true→g j=fr j)→d r=some (.rows 8 [[.isl 2 (cx.funs.map Cf.row), .osl 1 v st.vars.length, .isl 1 (fR abs st.arrs), .str cx.inp, .int .i64 st.read, .isl 1 (st.out.map rJ), .int .i64 st.ticks, .int .i64 cx.fuel]])→
   (∀b s l,b≠r→off vo b→(∀r∈l, ∀x∈r,tR x=true)→H b=some (.rows s l)→d b=some (.rows s l))→mB E N c Q g d):mB E N c Q fr H:=by
 have u:H r=some (.rows 8 [[AV.isl 2 (cx.funs.map Cf.row), .osl 1 v st.vars.length, .isl 1 (fR abs st.arrs), .str cx.inp, .int .i64 st.read]++vo::[.int .i64 st.ticks, .int .i64 cx.fuel]]):=f.r;refine iE f.o u (fun x a=>?_) (fun x a=>?_) (f.o.offsz f.r (by decide)) fun g d y z A=>h g d (fun j B=>y j (bS B)) z fun b s l i k p t=>A b s l i k (fun r C x a=>bS (p r C x a)) t
 ·simp only[bJ,bL,dD]at a
  rcases a with rfl|rfl|rfl|rfl|rfl
  ·exact bS rfl
  ·intro s b n e
   cases e;exact f.ov
  ·exact bS rfl
  ·exact bS rfl
  exact bS rfl
 simp only[bJ,bL,dD]at a;rcases a with rfl|rfl<;>exact bS rfl
end Go.Al
namespace Go.Proofs.YtaecpjgmcffliaaGreatDoor
open Go.Al Go.Proofs.Tryz
def jP (t:dE):List Int:=t.map fun c=>(c.toNat:Int)
theorem jI (a b:dE):jP (a++b)=jP a++jP b:=cP
theorem gD (a:dE):(jP a).length=a.length:=aF _
theorem eJ (c:Int) (q:Nat) (z:Zs):iK [c] q z=(Bn (q:Int) c z,vT (q:Int) c z):=by simp [iK]
theorem jM {W:List Int} {q:Nat} {A B:List Int} {z:Zs} (h:yF W (4 *q) (iK (A++B) q z).2):yF W (4 *q) (iK A q z).2∧yF W (4 *(q+A.length)) (iK B (q+A.length) (iK A q z).1).2:=by
 rw[zU]at h;obtain⟨b,a⟩:=h.app;rw[vU]at a;exact⟨b,by rw[Nat.mul_add];exact a⟩
theorem iJ (A B:List Int) (q:Nat) (z:Zs):(iK (A++B) q z).1=(iK B (q+A.length) (iK A q z).1).1:=by rw[zU]
structure Nm (V:UInt8→Prop) (A:Prop) (rs:dE→Bool×Int):Prop where
 lt: ∀c,V c→97≤c.toNat∧c.toNat≤122
 inj: ∀c c',V c→V c'→(rs [c]).2=(rs [c']).2→c=c'
 gl: ∀c,V c→(rs [c]).1=false∧0≤(rs [c]).2
 ar:A→(rs [116]).2=0
structure MR (V:UInt8→Prop) (A:Prop) (rs:dE→Bool×Int) (st:RS) (s:Mc):Prop where
 len:s.mem.length=4224
 rd:s.rd=st.read
 out:s.out=st.out
 vars: ∀c,V c→ ∃v,st.vars[((rs [c]).2).toNat]?=some v∧dQ v∧s.mem[c.toNat]?=some v
 arr:A→ ∃L,st.arrs[0]?=some L∧L.length=4096∧ ∀j,j<4096→ ∃v,L[j]?=some v∧dQ v∧s.mem[128+j]?=some v
section
variable {V : UInt8 → Prop} {A : Prop} {rs : dE → Bool × Int} {W : List Int} {cx : Cx}
theorem MR.keep {st:RS} {s s':Mc} (n:Nm V A rs) (h:MR V A rs st s) (p:s'.mem.length=4224) (f: ∀j,97≤j→s'.mem[j]?=s.mem[j]?) (u:s'.rd=s.rd) (t:s'.out=s.out):MR V A rs st s':=by
 refine⟨p,u.trans h.rd,t.trans h.out,fun c e=>?_,fun l=>?_⟩
 ·obtain⟨v,a,b,d⟩:=h.vars c e
  exact⟨v,a,b,by rw[f _ (n.lt c e).1];exact d⟩
 obtain⟨L,a,b,d⟩:=h.arr l;refine⟨L,a,b,fun j o=>?_⟩;obtain⟨v,g,i,k⟩:=d j o;exact⟨v,g,i,by rw[f _ (by omega)];exact k⟩
def ER (V:UInt8→Prop) (A:Prop) (rs:dE→Bool×Int) (W:List Int) (cx:Cx) (q len d:Nat) (tk:Nat) (s:Mc):Rz Int→Prop
 | .val v st'=>st'.ticks=tk∧dQ v∧ ∃k s',k≤4 *len∧Go W cx.inp k s s'∧s'.pc=((4 *(q+len):Nat):Int)∧MR V A rs st' s'∧s'.mem[d+2]?=some v∧ ∀j,j<d+2→s'.mem[j]?=s.mem[j]?
 | .fin x st'=>st'.ticks=tk∧x≠0∧x≠5∧ ∃k s',k+1≤4 *len∧Fin W cx.inp k s x s'∧s'.out=st'.out
theorem Ub {inp:dE} {q d:Nat} {s:Mc} (e:yF W (4 *q) (zM (d:Int) (gB 3 1 2 0) (d:Int))) (c:s.pc=((4 *q:Nat):Int)) (hd:d≤200) (b:s.mem.length=4224): ∃a,Go W inp 4 s a∧a.pc=((4 *(q+1):Nat):Int)∧a.mem=s.mem∧a.rd=s.rd∧a.out=s.out:=by
 have g:=Je (inp:=inp) (s2:={(s.hd q d).nx with r1:=s.m (d+1)}) e (by decide) c hd hd b rfl (by show((4 *q+2:Nat):Int)+1=_;omega) b;refine⟨_,g,rfl, ?_,rfl,rfl⟩;show s.mem.set (d+1) (s.m (d+1))=s.mem;exact Ab (Mc.m_get (by omega))
theorem Px {l:List Int} {d:Nat} {v:Int} (b:l.length=4224) (hd:d≤90):(l.set (d+2) v).length=4224∧(∀j,97≤j→(l.set (d+2) v)[j]?=l[j]?)∧(l.set (d+2) v)[d+2]?=some v∧ ∀j,j<d+2→(l.set (d+2) v)[j]?=l[j]?:=by
 refine⟨by rw[dK,b],fun j a=>?_, ?_,fun j a=>?_⟩
 ·rw[gX (by omega),aO (by omega)]
 ·rw[gX (by omega),bF rfl]
 rw[gX (by omega),aO (by omega)]
theorem S4 (n:Nat): ∀(q d:Nat),d≤200→n<4294967296→(iK (jP (Lib.decDigits n)) q (zl d 0)).1=zl d (n:Int)∧
  ∀{inp:dE} {s:Mc},yF W (4 *q) (iK (jP (Lib.decDigits n)) q (zl d 0)).2→s.pc=((4 *q:Nat):Int)→s.mem.length=4224→ ∃a,Go W inp (4 *(Lib.decDigits n).length) s a∧a.pc=((4 *(q+(Lib.decDigits n).length):Nat):Int)∧a.mem=s.mem∧a.rd=s.rd∧a.out=s.out:=by
 induction n using Nat.strongRecOn with
 |_ n ih=>
  intro q d hd E
  have one: ∀k:Nat,k<10→jP [UInt8.ofNat (48+k)]=[((48+k:Nat):Int)]:=fun k D=>by
   simp only[jP,cX,dH];rw[UInt8.toNat_ofNat',Nat.mod_eq_of_lt (by omega)]
  rw[Lib.decDigits];split
  ·rename_i h
   have z:=L8 (q:=(q:Int)) (c:=((48+n:Nat):Int)) (d:=(d:Int)) (s:=1880096768) (m:=0) (by omega) (by omega) (by omega);rw[one n h,eJ];refine⟨by rw[z.2];show Zs.mk _ _ _=Zs.mk _ _ _;congr 1;omega,fun {inp s} f o e=>?_⟩;rw[z.1]at f;obtain⟨a,g,i,b,j,l⟩:=Ub (inp:=inp) f o hd e;exact⟨a,g,i,b,j,l⟩
  rename_i h;have u:n % 10<10:=sF _ (by decide);obtain⟨t,v⟩:=ih (n/10) (by omega) q d hd (by omega);have z:=L8 (q:=((q+(jP (Lib.decDigits (n/10))).length:Nat):Int)) (c:=((48+n % 10:Nat):Int)) (d:=(d:Int)) (s:=1880096768) (m:=((n/10:Nat):Int)) (by omega) (by omega) (by omega);rw[jI,one _ u,iJ,t,eJ];refine⟨by rw[z.2];show Zs.mk _ _ _=Zs.mk _ _ _;congr 1;omega,fun {inp s} f o e=>?_⟩;obtain⟨C,p⟩:=jM f;rw[t,eJ,z.1]at p;obtain⟨F,g,i,b,j,l⟩:=v (inp:=inp) C o e;rw[gD]at p;obtain⟨B,k1,x,k3,k4,y⟩:=Ub (inp:=inp) p i hd (by rw[b];exact e);refine⟨B, ?_, ?_,k3.trans b,k4.trans j,y.trans l⟩
  ·have:=g.app k1
   rw[aB,bW,Nat.mul_add];exact this
  rw[x,aB,bW,gJ]
theorem lO {i:Int} {e:Ex} (h:SX V A i e): ∀(q d:Nat),(d:Int)≤i→(iK (jP (fL e)) q (zl d 0)).1=zl ((d+1:Nat):Int) 0:=by
 induction h with
 |num i n hl h=>
  intro q d hd;have f:fL (.mk 1 0 n [] [])=Lib.decDigits n.toNat++[32]:=by simp [fL,iI,hY]
  have k:n.toNat<4294967296:=by have:=h.1;have:=h.2;omega
  obtain⟨p,_⟩:=S4 (W:=[]) n.toNat q d (by omega) k;rw[f,jI,iJ,p];show(iK [32] _ _).1=_;rw[eJ,(CE (by omega) (by omega)).2];rfl
 |var i c hl h hV=>
  intro q d hd;have f:fL (.mk 2 0 0 [c] [])=[c]:=by simp [fL,iI,hY]
  have j:97≤c.toNat∧c.toNat≤122:=by simp only[Ny,aV,bH]at h;exact h
  rw[f];show(iK [(c.toNat:Int)] _ _).1=_;rw[eJ,(RI (by omega) (by omega)).2];rfl
 |idx i a hl hA ha ih=>
  intro q d hd;have f:fL (.mk 3 0 0 [116] [a])=fL a++[64]:=by rw[fL,sC];simp [hY]
  rw[f,jI,iJ,ih q d (by omega)];show(iK [64] _ _).1=_;rw[eJ,(RJ (by omega)).2]
 |get i hl=>
  intro q d hd;have f:fL (.mk 5 0 0 [] [])=[63]:=by simp [fL,iI,hY]
  rw[f];show(iK [63] _ _).1=_;rw[eJ,(pS (A:=1997537280) (X:=gB 23 1 0 0) (g:=3) (by decide) (by decide) (by decide) (by decide) (by decide) (by decide) (by omega) (by omega)).2,show((d:Int)+3 - 2)=((d+1:Nat):Int)by omega]
 |neg i a hl ha ih=>
  intro q d hd;have f:fL (.mk 7 0 0 [] [a])=fL a++[33]:=by rw[fL,sC];simp [hY]
  rw[f,jI,iJ,ih q d (by omega)];show(iK [33] _ _).1=_;rw[eJ,(pS (A:=1326579712) (X:=gB 15 1 2 0) (g:=2) (by decide) (by decide) (by decide) (by decide) (by decide) (by decide) (by omega) (by omega)).2,show(((d+1:Nat):Int)+2 - 2)=((d+1:Nat):Int)by omega]
 |op i o a b hl h ha hb iha ihb=>
  intro q d hd;obtain⟨c,j,l⟩:=RH h;have f:fL (.mk 6 o 0 [] [a,b])=fL a++(fL b++[c]):=by rw[fL,Vx];simp [hY,j]
  rw[f,jI,jI,iJ,iha q d (by omega),iJ,ihb _ (d+1) (by omega)];show(iK [(c.toNat:Int)] _ _).1=_;rw[eJ,(l (by omega)).2,show(((d+1+1:Nat):Int)- 1)=((d+1:Nat):Int)by omega]
end
section
variable {V : UInt8 → Prop} {A : Prop} {rs : dE → Bool × Int} {W : List Int} {cx : Cx} {inp : dE}
theorem NQ {q d:Nat} {m:Int} {s:Mc} (c:yF W (4 *q) [gB 16 2 0 ((d:Int)+1),gB 1 1 0 (m % 65536),gB 2 1 0 (m/65536),gB 17 1 0 ((d:Int)+1+1)]) (v:0≤m∧m<4294967296) (u:s.pc=((4 *q:Nat):Int)) (hd:d≤90) (g:s.mem.length=4224):
  ∃b,Go W inp 4 s b∧b.pc=((4 *(q+1):Nat):Int)∧b.mem=s.mem.set (d+2) m∧b.rd=s.rd∧b.out=s.out:=by
 have l:W[4 *q]?=some (gB 16 2 0 ((d+1:Nat):Int)):=c 0 (by simp);have n:W[4 *q+1]?=some (gB 1 1 0 (m % 65536)):=c 1 (by simp);have o:W[4 *q+2]?=some (gB 2 1 0 (m/65536)):=c 2 (by simp);have t:W[4 *q+3]?=some (gB 17 1 0 ((d+1+1:Nat):Int)):=c 3 (by simp);have f:=R1 (inp:=inp) (a:=2) u l (.inr rfl) (by omega) g;rw[aO (by decide)]at f
 have i:nB W inp {s.nx with r2:=s.m (d+1)}=some (0,{({s.nx with r2:=s.m (d+1)}:Mc).nx with r1:=m % 65536}):=by
  rw[mO (p:=4 *q+1) (by show s.pc+1=_;omega) n (by omega)];rfl
 have j:nB W inp {({s.nx with r2:=s.m (d+1)}:Mc).nx with r1:=m % 65536}=some (0,{({({s.nx with r2:=s.m (d+1)}:Mc).nx with r1:=m % 65536}:Mc).nx with r1:=m}):=by
  rw[mO (p:=4 *q+2) (by show s.pc+1+1=_;omega) o (by omega)];show some _=some _;have :m % 65536 % 65536+m/65536 *65536=m:=by omega
  rw[show(Mc.r {({s.nx with r2:=s.m (d+1)}:Mc).nx with r1:=m % 65536} 1)=m % 65536 from rfl,this]
 have k:=Ua (W:=W) (inp:=inp) (q:=q) (e:=d+1) (s:={({({s.nx with r2:=s.m (d+1)}:Mc).nx with r1:=m % 65536}:Mc).nx with r1:=m}) (by show s.pc+1+1+1=_;omega) t (by omega) g;exact⟨_, .step f (.step i (.step j k)),rfl,rfl,rfl,rfl⟩
theorem WU {q d:Nat} {x:Int} {s:Mc} (f:yF W (4 *q) [gB 16 2 0 ((d:Int)+1),gB 25 2 0 4096,gB 16 1 2 128,gB 17 1 0 ((d:Int)+1)]) (C:s.mem[d+1]?=some x) (D:0≤x) (B:s.pc=((4 *q:Nat):Int)) (hd:d≤90) (j:s.mem.length=4224):
  (∀v,x<4096→s.mem[128+x.toNat]?=some v→ ∃b,Go W inp 4 s b∧b.pc=((4 *(q+1):Nat):Int)∧b.mem=s.mem.set (d+1) v∧b.rd=s.rd∧b.out=s.out)∧(¬x<4096→ ∃b,Fin W inp 1 s 3 b∧b.out=s.out):=by
 have o:W[4 *q]?=some (gB 16 2 0 ((d+1:Nat):Int)):=f 0 (by simp);have t:W[4 *q+1]?=some (gB 25 2 0 4096):=f 1 (by simp);have u:W[4 *q+2]?=some (gB 16 1 2 128):=f 2 (by simp);have y:W[4 *q+3]?=some (gB 17 1 0 ((d+1:Nat):Int)):=f 3 (by simp);have g:=R1 (inp:=inp) (a:=2) B o (.inr rfl) (by omega) j;rw[aO (by decide),Mc.m_some C]at g
 have c:nB W inp {s.nx with r2:=x}=if x<4096 then some (0,({s.nx with r2:=x}:Mc).nx)else some (3,({s.nx with r2:=x}:Mc).stp):=by
  rw[mO (p:=4 *q+1) (by show s.pc+1=_;omega) t (by decide)];rfl
 refine⟨fun v i z=>?_,fun i=>?_⟩
 ·rw[bF i]at c
  have l:nB W inp ({s.nx with r2:=x}:Mc).nx=some (0,{({s.nx with r2:=x}:Mc).nx.nx with r1:=v}):=by
   rw[mO (p:=4 *q+2) (by show s.pc+1+1=_;omega) u (by decide)];have e:gR ((({s.nx with r2:=x}:Mc).nx).r 2+128)=x+128:=by show gR (x+128)=_;rw[eL (by omega)]
   have k:(({s.nx with r2:=x}:Mc).nx).mem[(x+128).toNat]?=some v:=by rw[show(x+128).toNat=128+x.toNat by omega];exact z
   simp only[uG,e,k];rfl
  have n:=Ua (W:=W) (inp:=inp) (q:=q) (e:=d) (s:={({s.nx with r2:=x}:Mc).nx.nx with r1:=v}) (by show s.pc+1+1+1=_;omega) y (by omega) j;exact⟨_, .step g (.step c (.step l n)),rfl,rfl,rfl,rfl⟩
 rw[aO i]at c;exact⟨_,⟨_, .one g,c⟩,rfl⟩
theorem xP {q d e:Nat} {o a b c v:Int} {rd:Nat} {s:Mc} (p:yF W (4 *q) (zM (d:Int) (gB o a b c) (e:Int))) (n:(0≤o∧o≤200)∧(0≤a∧a≤15)∧(0≤b∧b≤15)∧(0≤c∧c≤65535)) (l:s.pc=((4 *q:Nat):Int)) (hd:d≤200) (k:e≤200) (i:s.mem.length=4224)
  (j:uG inp o a b c (s.hd q d)=some (0,{(s.hd q d).nx with r1:=v,rd:=rd})): ∃f,Go W inp 4 s f∧f.pc=((4 *(q+1):Nat):Int)∧f.mem=s.mem.set (e+1) v∧f.rd=rd∧f.out=s.out:=by
 have g:=Je p n l hd k i j (by show((4 *q+2:Nat):Int)+1=_;omega) i;exact⟨_,g,rfl,rfl,rfl,rfl⟩
theorem uV (f:Nm V A rs) {q len d e k:Nat} {s s1 s':Mc} {st':RS} {v:Int} (i:k≤4 *len) (g:Go W cx.inp k s s') (p:s'.pc=((4 *(q+len):Nat):Int)) (n:s'.mem=s1.mem.set (d+2) v) (a:MR V A rs st' s1) (t:s'.rd=s1.rd) (o:s'.out=s1.out) (l: ∀j,j<d+2→s1.mem[j]?=s.mem[j]?) (x:dQ v) (u:st'.ticks=e) (hd:d≤90):ER V A rs W cx q len d e s (.val v st'):=by
 obtain⟨k1,c,k3,k4⟩:=Px (v:=v) a.len hd;rw[←n]at k1 c k3 k4;exact⟨u,x,k,s',i,g,p,a.keep f k1 c t o,k3,fun j b=>by rw[k4 j b,l j b]⟩
theorem Pe (H:Nm V A rs) {J:Int} {e:Ex} (h:SX V A J e): ∀(q d n:Nat) (st:RS) (s:Mc) (r:Rz Int),(d:Int)≤J→yF W (4 *q) (iK (jP (fL e)) q (zl d 0)).2→s.pc=((4 *q:Nat):Int)→MR V A rs st s→jZ cx n rs [] e st=some r→ER V A rs W cx q (fL e).length d st.ticks s r:=by
 induction h with
 |num J m hl h=>
  intro q d n st s r hd p F l f
  cases n with
  |zero=>simp [jZ]at f
  |succ n=>
  simp only[jZ,cQ,Option.some.injEq]at f;subst f;have z:fL (.mk 1 0 m [] [])=Lib.decDigits m.toNat++[32]:=by simp [fL,iI,hY]
  have hn:m.toNat<4294967296:=by have:=h.1;have:=h.2;omega
  have a5:((m.toNat:Nat):Int)=m:=Int.toNat_of_nonneg h.1;obtain⟨i1,i2⟩:=S4 (W:=W) m.toNat q d (by omega) hn;rw[z,jI]at p;obtain⟨S,t⟩:=jM p;rw[i1,gD]at t;have t:yF W (4 *(q+(Lib.decDigits m.toNat).length)) (iK [32] (q+(Lib.decDigits m.toNat).length) (zl d ((m.toNat:Nat):Int))).2:=t;rw[eJ,(CE (by omega) (by omega)).1,a5]at t;obtain⟨s1,G,K,E,M,N⟩:=i2 (inp:=cx.inp) S F l.len;obtain⟨B,k1,u,k3,k4,D⟩:=NQ (inp:=cx.inp) t ⟨h.1,by have:=h.2;omega⟩ K (by omega) (by rw[E];exact l.len);rw[z,aB,bW];exact uV H (by omega) (G.app k1) (by rw[u,gJ]) (by rw[k3,E]) l (k4.trans M) (D.trans N) (fun _ _=>rfl) h rfl (by omega)
 |var J c hl h hV=>
  intro q d n st s r hd p F l f
  cases n with
  |zero=>simp [jZ]at f
  |succ n=>
  have z:fL (.mk 2 0 0 [c] [])=[c]:=by simp [fL,iI,hY]
  have hc:=H.lt c hV;obtain⟨v,v1,v2,v3⟩:=l.vars c hV;obtain⟨l1,l2⟩:=H.gl c hV;simp only[jZ,Int.reduceEq,cQ,dT,Eh,l1,l2,cK,v1,eE,Option.some.injEq]at f;subst f;rw[z]at p⊢;have p:yF W (4 *q) (iK [(c.toNat:Int)] q (zl d 0)).2:=p;rw[eJ,(RI (by omega) (by omega)).1]at p
  obtain⟨B,k1,u,k3,k4,D⟩:=xP (inp:=cx.inp) (e:=d+1) (v:=v) (rd:=s.rd) p (by omega) F (by omega) (by omega) l.len (by
   have e:gR ((s.hd q d).r 0+(c.toNat:Int))=(c.toNat:Int):=by show gR (0+(c.toNat:Int))=_;rw[Int.zero_add,eL (by omega)]
   have e2:(s.hd q d).mem[c.toNat]?=some v:=v3;simp only[uG,e,cA,e2]
   rfl)
  exact uV H (len:=1) (by omega) k1 u k3 l k4 D (fun _ _=>rfl) v2 rfl (by omega)
 |idx J a hl hA ha ih=>
  intro q d n st s r hd p F l f
  cases n with
  |zero=>simp [jZ]at f
  |succ n=>
  have z:fL (.mk 3 0 0 [116] [a])=fL a++[64]:=by rw[fL,sC];simp [hY]
  rw[z,jI]at p;obtain⟨S,t⟩:=jM p;rw[lO ha q d (by omega),gD]at t;have t:yF W (4 *(q+(fL a).length)) (iK [64] (q+(fL a).length) (zl ((d+1:Nat):Int) 0)).2:=t;rw[eJ,(RJ (by omega)).1]at t;simp only[jZ,Int.reduceEq,cQ,dT,dJ,H.ar hA]at f
  cases hx:jZ cx n rs [] a st with
  |none=>rw[hx]at f;cases f
  |some ra=>
  rw[hx]at f;have I:=ih q d n st s ra (by omega) S F l hx;rw[z,aB,bW]
  cases ra with
  |fin x st1=>
   simp only[bindR,Option.some.injEq]at f;subst f;obtain⟨C,T,U,k,R,hk,O,P⟩:=I;exact⟨C,T,U,k,R,by omega,O,P⟩
  |val x st1=>
   obtain⟨C,Q,k,s1,hk,G,K,E,M,N⟩:=I;obtain⟨L,L1,L2,L3⟩:=E.arr hA;simp only[bindR,A9,Int.toNat_zero,L1,L2,Int.le_refl,cQ]at f;obtain⟨a1,a2⟩:=WU (inp:=cx.inp) t M Q.1 K (by omega) E.len;by_cases c:x<4096
   ·obtain⟨v,v1,v2,v3⟩:=L3 x.toNat (by have:=Q.1;omega)
    rw[bF (by have:=Q.1;omega)]at f;simp only[L1,bX,v1,eE,Option.some.injEq]at f;subst f;obtain⟨B,k1,u,k3,k4,D⟩:=a1 v c v3;exact uV H (by omega) (G.app k1) (by rw[u,gJ]) k3 E k4 D N v2 C (by omega)
   rw[aO (by have:=Q.1;omega)]at f;simp only[Option.some.injEq]at f;subst f;obtain⟨B,k1,u⟩:=a2 c;exact⟨C,by decide,by decide,k+1,B,by omega,Fin.after G k1,by rw[u,E.out]⟩
 |get J hl=>
  intro q d n st s r hd p F l f
  cases n with
  |zero=>simp [jZ]at f
  |succ n=>
  have z:fL (.mk 5 0 0 [] [])=[63]:=by simp [fL,iI,hY]
  rw[z]at p⊢;have p:yF W (4 *q) (iK [63] q (zl d 0)).2:=p;rw[eJ,(pS (A:=1997537280) (X:=gB 23 1 0 0) (g:=3) (by decide) (by decide) (by decide) (by decide) (by decide) (by decide) (by omega) (by omega)).1,show((d:Int)+3 - 2)=((d+1:Nat):Int)by omega]at p;simp only[jZ,Int.reduceEq,cQ,dT,Option.some.injEq,yE]at f;have a4:(s.hd q d).rd=st.read:=l.rd
  cases Y:cx.inp[st.read]? with
  |none=>
   rw[Y]at f;subst f
   obtain⟨B,k1,u,k3,k4,D⟩:=xP (inp:=cx.inp) (e:=d+1) (v:=256) (rd:=s.rd) p (by decide) F (by omega) (by omega) l.len (by
    simp only[uG,a4,Y]
    rfl)
   exact uV H (len:=1) (by omega) k1 u k3 l k4 D (fun _ _=>rfl) (by simp [dQ]) rfl (by omega)
  |some c=>
   rw[Y]at f;subst f
   obtain⟨B,k1,u,k3,k4,D⟩:=xP (inp:=cx.inp) (e:=d+1) (v:=(c.toNat:Int)) (rd:=st.read+1) p (by decide) F (by omega) (by omega) l.len (by
    simp only[uG,a4,Y]
    rfl)
   have hc:=Vw c;exact uV H (len:=1) (s1:={s with rd:=s.rd+1}) (by omega) k1 u k3 ⟨l.len,by show s.rd+1=st.read+1;rw[l.rd],l.out,l.vars,l.arr⟩ (by rw[k4];show _=s.rd+1;rw[l.rd]) D (fun _ _=>rfl) (by simp only[dQ];omega) rfl (by omega)
 |neg J a hl ha ih=>
  intro q d n st s r hd p F l f
  cases n with
  |zero=>simp [jZ]at f
  |succ n=>
  have z:fL (.mk 7 0 0 [] [a])=fL a++[33]:=by rw[fL,sC];simp [hY]
  rw[z,jI]at p;obtain⟨S,t⟩:=jM p;rw[lO ha q d (by omega),gD]at t;have t:yF W (4 *(q+(fL a).length)) (iK [33] (q+(fL a).length) (zl ((d+1:Nat):Int) 0)).2:=t;rw[eJ,(pS (A:=1326579712) (X:=gB 15 1 2 0) (g:=2) (by decide) (by decide) (by decide) (by decide) (by decide) (by decide) (by omega) (by omega)).1,show(((d+1:Nat):Int)+2 - 2)=((d+1:Nat):Int)by omega]at t;simp only[jZ,Int.reduceEq,cQ,dT,dJ]at f
  cases hx:jZ cx n rs [] a st with
  |none=>rw[hx]at f;cases f
  |some ra=>
  rw[hx]at f;have I:=ih q d n st s ra (by omega) S F l hx;rw[z,aB,bW]
  cases ra with
  |fin x st1=>
   simp only[bindR,Option.some.injEq]at f;subst f;obtain⟨C,T,U,k,R,hk,O,P⟩:=I;exact⟨C,T,U,k,R,by omega,O,P⟩
  |val x st1=>
   obtain⟨C,Q,k,s1,hk,G,K,E,M,N⟩:=I;simp only[bindR,Option.some.injEq]at f;subst f
   obtain⟨B,k1,u,k3,k4,D⟩:=xP (inp:=cx.inp) (e:=d+1) (v:=if x=0 then 1 else 0) (rd:=s1.rd) t (by decide) K (by omega) (by omega) E.len (by
    have e2:(s1.hd (q+(fL a).length) (d+1)).r 2=x:=Mc.m_some M;have e3:(s1.hd (q+(fL a).length) (d+1)).r 0=0:=rfl;simp only[uG,e2,e3,Uy]
    rfl)
   exact uV H (by omega) (G.app k1) (by rw[u,gJ]) k3 E k4 D N (by split<;>simp [dQ]) C (by omega)
 |op J o a b hl h ha hb iha ihb=>
  intro q d n st s r hd p F l f
  cases n with
  |zero=>simp [jZ]at f
  |succ n=>
  obtain⟨c,hc,hz⟩:=RH h;have z:fL (.mk 6 o 0 [] [a,b])=fL a++(fL b++[c]):=by rw[fL,Vx];simp [hY,hc]
  rw[z,jI,jI]at p;obtain⟨S,t⟩:=jM p;rw[lO ha q d (by omega),gD]at t;obtain⟨t,Z⟩:=jM t;rw[lO hb _ (d+1) (by omega),gD]at Z;have Z:yF W (4 *(q+(fL a).length+(fL b).length)) (iK [(c.toNat:Int)] (q+(fL a).length+(fL b).length) (zl ((d+1+1:Nat):Int) 0)).2:=Z;rw[eJ,(hz (by omega)).1,show(((d+1+1:Nat):Int)- 1)=((d+1:Nat):Int)by omega]at Z;simp only[jZ,Int.reduceEq,cQ,dT,dJ,fB]at f;rw[z,aB,aB,bW]
  cases hx:jZ cx n rs [] a st with
  |none=>rw[hx]at f;cases f
  |some ra=>
  rw[hx]at f;have I:=iha q d n st s ra (by omega) S F l hx
  cases ra with
  |fin x st1=>
   simp only[bindR,Option.some.injEq]at f;subst f;obtain⟨C,T,U,k,R,hk,O,P⟩:=I;exact⟨C,T,U,k,R,by omega,O,P⟩
  |val x st1=>
  obtain⟨C,Q,k,s1,hk,G,K,E,M,N⟩:=I;simp only[bindR]at f
  cases hy:jZ cx n rs [] b st1 with
  |none=>rw[hy]at f;cases f
  |some rb=>
  rw[hy]at f;have hF:=ihb (q+(fL a).length) (d+1) n st1 s1 rb (by omega) t K E hy
  cases rb with
  |fin y st2=>
   simp only[Option.some.injEq]at f;subst f;obtain⟨t2,T,U,u,R,a7,O,P⟩:=hF;exact⟨t2.trans C,T,U,k+u,R,by omega,Fin.after G O,P⟩
  |val y st2=>
   obtain⟨t2,hv,j,B,hj,j1,j2,j3,j4,j5⟩:=hF;have a6:B.mem[d+2]?=some x:=by rw[j5 _ (by omega)];exact M
   have e2:(B.hd (q+(fL a).length+(fL b).length) (d+1+1)).r 2=y:=Mc.m_some j4;have e3:(B.hd (q+(fL a).length+(fL b).length) (d+1+1)).r 1=x:=Mc.m_some a6
   have a0:uG cx.inp o 1 1 2 (B.hd (q+(fL a).length+(fL b).length) (d+1+1))=if(eP o x y).2=0 then(B.hd (q+(fL a).length+(fL b).length) (d+1+1)).set 1 (eP o x y).1 else some (2,(B.hd (q+(fL a).length+(fL b).length) (d+1+1)).stp):=by
    unfold uG;rw[aO (by omega),aO (by omega),aO (by omega),bF h,e2,e3]
   by_cases a3:(eP o x y).2=0
   ·rw[bF a3]at a0
    simp only[a3,cQ,Option.some.injEq]at f;subst f;obtain⟨s3,k1,u,k3,k4,D⟩:=xP (inp:=cx.inp) (e:=d+1) (v:=(eP o x y).1) (rd:=B.rd) Z (by omega) j2 (by omega) (by omega) j3.len (by rw[a0];rfl);refine uV H (by omega) ((G.app j1).app k1) (by rw[u];simp only[gJ]) k3 j3 k4 D (fun i Y=>by rw[j5 i (by omega),N i Y]) (Lh o Q hv) (t2.trans C) (by omega)
   rw[aO a3]at a0;simp only[a3,dT,Option.some.injEq]at f;subst f;obtain⟨k1,u⟩:=An (inp:=cx.inp) Z (by omega) j2 (by omega) j3.len;exact⟨t2.trans C,by decide,by decide,k+j+2,_,by omega,⟨_,(G.app j1).app k1,u.trans a0⟩,j3.out⟩
end
section
mutual
def yL:Nat→Sm→List Int
 |b, .mk k s l t _=>
  if k=1 then jP (iI l)++([58]++jP s)
  else if k=2 then jP (iI l)++[35]
  else if k=3 then jP (iI l)++[46]
  else if k=4 then jP (iI l)++([857735172+4 *((b+(iI l).length+1+(iL t).length:Nat):Int)]++(pY (b+(iI l).length+1) t++[70]))
  else [87]++(jP (iI l)++([857735172+4 *((b+1+(iI l).length+1+(iL t).length:Nat):Int)]++(pY (b+1+(iI l).length+1) t++[69])))
def pY:Nat→List Sm→List Int
 |_,[]=>[]
 |b,s::l=>yL b s++pY (b+(nY s).length) l
end
def vK (c:UInt8):Prop:=c≠68∧c≠73∧c≠69∧c≠70
theorem qG: ∀(u:dE),(∀c∈u,vK c)→ ∀(T:List Int) (o:Int),yC u (T,o)=some (T++jP u,o)
 |[],_,T,o=>by simp [yC,jP]
 |c::u,h,T,o=>by
  obtain⟨a,b,d,f⟩:=h c (dN)
  have e:Q0 c (T,o)=some (T++[(c.toNat:Int)],o):=by
   unfold Q0;rw[aO (by simp [a,b]),aO (by simp [d,f])]
  simp only[yC,e,bX];rw[qG u (fun x g=>h x (eR _ g))];simp [jP]
theorem KG (n:Nat): ∀c∈Lib.decDigits n,vK c∧48≤c.toNat∧c.toNat≤57:=by
 induction n using Nat.strongRecOn with
 |_ n ih=>
  have one: ∀k:Nat,k<10→vK (UInt8.ofNat (48+k))∧48≤(UInt8.ofNat (48+k)).toNat∧(UInt8.ofNat (48+k)).toNat≤57:=fun k b=>by
   have :k=0∨k=1∨k=2∨k=3∨k=4∨k=5∨k=6∨k=7∨k=8∨k=9:=by omega
   rcases this with rfl|rfl|rfl|rfl|rfl|rfl|rfl|rfl|rfl|rfl<;>exact⟨⟨by decide,by decide,by decide,by decide⟩,by decide,by decide⟩
  intro c a;rw[Lib.decDigits]at a;split at a
  ·rename_i h
   rw[bE]at a;subst a;exact one n h
  rw[eV,bE]at a;rcases a with a|rfl
  ·exact ih _ (by omega) c a
  exact one _ (sF _ (by decide))
section
variable {V : UInt8 → Prop} {A : Prop}
theorem xG {g:Int} {e:Ex} (h:SX V A g e): ∀c∈fL e,vK c:=by
 have i: ∀k:UInt8,vK k→ ∀c∈[k],vK c:=fun k p c f=>by rw[bE]at f;subst f;exact p
 have Ol: ∀{a b:dE},(∀c∈a,vK c)→(∀c∈b,vK c)→ ∀c∈a++b,vK c:=fun j l c f=>by
  rcases eV.1 f with h|h
  ·exact j c h
  exact l c h
 induction h with
 |num g n hl h=>
  have d:fL (.mk 1 0 n [] [])=Lib.decDigits n.toNat++[32]:=by simp [fL,iI,hY]
  rw[d];exact Ol (fun c f=>(KG _ c f).1) (i 32 ⟨by decide,by decide,by decide,by decide⟩)
 |var g c hl h hV=>
  have d:fL (.mk 2 0 0 [c] [])=[c]:=by simp [fL,iI,hY]
  have f:97≤c.toNat∧c.toNat≤122:=by simp only[Ny,aV,bH]at h;exact h
  rw[d];refine i c ⟨fun e=>?_,fun e=>?_,fun e=>?_,fun e=>?_⟩<;>(rw[e]at f;exact absurd f.1 (by decide))
 |idx g a hl hA j ih=>
  have d:fL (.mk 3 0 0 [116] [a])=fL a++[64]:=by rw[fL,sC];simp [hY]
  rw[d];exact Ol ih (i 64 ⟨by decide,by decide,by decide,by decide⟩)
 |get g hl=>
  have d:fL (.mk 5 0 0 [] [])=[63]:=by simp [fL,iI,hY]
  rw[d];exact i 63 ⟨by decide,by decide,by decide,by decide⟩
 |neg g a hl j ih=>
  have d:fL (.mk 7 0 0 [] [a])=fL a++[33]:=by rw[fL,sC];simp [hY]
  rw[d];exact Ol ih (i 33 ⟨by decide,by decide,by decide,by decide⟩)
 |op g o a b hl h j l iha ihb=>
  have u: ∃c:UInt8,opS[(o- 4).toNat]?=some c∧vK c:=by
   have :o=4∨o=5∨o=6∨o=7∨o=8∨o=9∨o=10∨o=11∨o=12∨o=13∨o=14∨o=15:=by omega
   rcases this with rfl|rfl|rfl|rfl|rfl|rfl|rfl|rfl|rfl|rfl|rfl|rfl<;>exact⟨_,rfl,by decide,by decide,by decide,by decide⟩
  obtain⟨c,f,t⟩:=u;have d:fL (.mk 6 o 0 [] [a,b])=fL a++(fL b++[c]):=by rw[fL,Vx];simp [hY,f]
  rw[d];exact Ol iha (Ol ihb (i c t))
theorem RZ (c:UInt8) (e:Ex):nY (.mk 1 [c] [e] [] [])=fL e++[58,c]:=by simp [nY,sC]
theorem RY (a e:Ex):nY (.mk 2 [116] [a,e] [] [])=fL a++(fL e++[35]):=by simp [nY,Vx]
theorem RX (e:Ex):nY (.mk 3 [] [e] [] [])=fL e++[46]:=by simp [nY,sC]
theorem C3 (e:Ex) (t:List Sm):nY (.mk 4 [] [e] t [])=fL e++([73]++(iL t++[70])):=by simp [nY,sC]
theorem C2 (e:Ex) (t:List Sm):nY (.mk 5 [] [e] t [])=[87]++(fL e++([68]++(iL t++[69]))):=by simp [nY,sC]
theorem Z0 (b:Nat) (c:UInt8) (e:Ex):yL b (.mk 1 [c] [e] [] [])=jP (fL e)++([58]++[(c.toNat:Int)]):=by simp [yL,sC,jP]
theorem Y9 (b:Nat) (a e:Ex):yL b (.mk 2 [116] [a,e] [] [])=jP (fL a)++(jP (fL e)++[35]):=by simp [yL,Vx,jP]
theorem Y8 (b:Nat) (e:Ex):yL b (.mk 3 [] [e] [] [])=jP (fL e)++[46]:=by simp [yL,sC]
theorem Y7 (b:Nat) (e:Ex) (t:List Sm):yL b (.mk 4 [] [e] t [])=jP (fL e)++([857735172+4 *((b+(fL e).length+1+(iL t).length:Nat):Int)]++(pY (b+(fL e).length+1) t++[70])):=by simp [yL,sC]
theorem Y6 (b:Nat) (e:Ex) (t:List Sm):yL b (.mk 5 [] [e] t [])=[87]++(jP (fL e)++([857735172+4 *((b+1+(fL e).length+1+(iL t).length:Nat):Int)]++(pY (b+1+(fL e).length+1) t++[69]))):=by simp [yL,sC]
theorem qV: ∀{l:List Sm} {b:Nat},(∀s∈l, ∀b,(yL b s).length=(nY s).length)→(pY b l).length=(iL l).length
 |[],_,_=>rfl
 |s::l,b,h=>by
  rw[pY,iL,aB,aB,h s (dN),qV fun x a=>h x (eR _ a)]
theorem jL {d:Int} {m:Sm} (h:SS V A d m): ∀b,(yL b m).length=(nY m).length:=by
 induction h with
 |set d c e hl hc hV he=>intro b;rw[Z0,RZ];simp [gD]
 |store d a e hl hA ha he=>intro b;rw[Y9,RY];simp [gD]
 |put d e hl he=>intro b;rw[Y8,RX];simp [gD]
 |cond d e t hl he ht ih=>intro b;rw[Y7,C3];simp [gD,qV ih]
 |loop d e t hl he ht ih=>intro b;rw[Y6,C2];simp [gD,qV ih]
theorem Xw {X Y:List Int} {o:Int} (c:UInt8) (a:c=69∨c=70):Q0 c ((X++[o])++Y,(X.length:Int))=some (X++([857735172+4 *((X.length+1+Y.length:Nat):Int)]++(Y++[(c.toNat:Int)])),o):=by
 unfold Q0;have b: ¬(c=68∨c=73):=by rcases a with rfl|rfl<;>decide
 rw[aO b,bF a,bF (by show(0:Int)≤(X.length:Int);omega)]
 have d:((X++[o])++Y)[(X.length:Int).toNat]?=some o:=by
  rw[cA,bV,gC (aZ _)];simp
 simp only[cA];congr 2;rw[bV,bV,List.set_append_right _ _ (aZ _)];simp [aB,Nat.add_comm];omega
theorem P8 (c:UInt8) (p:List Int×Int):yC [c] p=Q0 c p:=by
 simp only[yC];cases Q0 c p<;>rfl
theorem XM: ∀{l:List Sm},(∀m∈l, ∀T o,yC (nY m) (T,o)=some (T++yL T.length m,o)∧(yL T.length m).length=(nY m).length)→ ∀T o,yC (iL l) (T,o)=some (T++pY T.length l,o)
 |[],_,T,o=>by simp [iL,pY,yC]
 |m::l,h,T,o=>by
  obtain⟨a,b⟩:=h m (dN) T o;rw[iL,lV,a,bX,XM (fun x c=>h x (eR _ c)),pY,aB,b,bV]
theorem ZK {g:Int} {m:Sm} (h:SS V A g m): ∀T o,yC (nY m) (T,o)=some (T++yL T.length m,o):=by
 have y: ∀(k:UInt8),vK k→ ∀T o,yC [k] (T,o)=some (T++[(k.toNat:Int)],o):=fun k F T o=>qG [k] (fun c d=>by rw[bE]at d;subst d;exact F) T o;have z: ∀{t:List Sm} {g:Int},(∀s∈t,SS V A g s)→(∀s∈t, ∀T o,yC (nY s) (T,o)=some (T++yL T.length s,o))→ ∀s∈t, ∀T o,yC (nY s) (T,o)=some (T++yL T.length s,o)∧(yL T.length s).length=(nY s).length:=fun i n s j T o=>⟨n s j T o,jL (i s j) _⟩
 induction h with
 |set g c e hl d hV he=>
  intro T o;have f:97≤c.toNat∧c.toNat≤122:=by simp only[Ny,aV,bH]at d;exact d
  have G:vK c:=⟨fun e=>(by rw[e]at f;exact absurd f.1 (by decide)),fun e=>(by rw[e]at f;exact absurd f.1 (by decide)),fun e=>(by rw[e]at f;exact absurd f.1 (by decide)),fun e=>(by rw[e]at f;exact absurd f.1 (by decide))⟩
  rw[RZ,Z0,lV,qG _ (xG he),bX,qG [58,c] (fun x B=>by
   simp only[bJ,bL,dD]at B;rcases B with rfl|rfl
   ·exact⟨by decide,by decide,by decide,by decide⟩
   exact G)]
  simp [jP]
 |store g a e hl hA ha he=>
  intro T o;rw[RY,Y9,lV,qG _ (xG ha),bX,lV,qG _ (xG he),bX,y 35 ⟨by decide,by decide,by decide,by decide⟩];simp
 |put g e hl he=>
  intro T o;rw[RX,Y8,lV,qG _ (xG he),bX,y 46 ⟨by decide,by decide,by decide,by decide⟩];simp
 |cond g e t hl he i n=>
  intro T o;have v:=qV (b:=T.length+(fL e).length+1) fun s j=>jL (i s j);have l:=XM (z i n) ((T++jP (fL e))++[o]) ((T++jP (fL e)).length:Int);have p:((T++jP (fL e))++[o]).length=T.length+(fL e).length+1:=by simp only[aB,gD,bW]
  have u:(T++jP (fL e)).length=T.length+(fL e).length:=by simp [gD]
  rw[p]at l;have d:=Xw (X:=T++jP (fL e)) (Y:=pY (T.length+(fL e).length+1) t) (o:=o) 70 (.inr rfl);have D:yC [73] (T++jP (fL e),o)=some ((T++jP (fL e))++[o],((T++jP (fL e)).length:Int)):=by simp [yC,Q0]
  rw[C3,Y7,lV,qG _ (xG he),bX,lV,D,bX,lV,l,bX,P8,d,u,v];simp [gJ]
 |loop g e t hl he i n=>
  intro T o;have v:=qV (b:=T.length+1+(fL e).length+1) fun s j=>jL (i s j);have l:=XM (z i n) (((T++[87])++jP (fL e))++[o]) (((T++[87])++jP (fL e)).length:Int);have p:(((T++[87])++jP (fL e))++[o]).length=T.length+1+(fL e).length+1:=by simp [gD];omega
  have u:((T++[87])++jP (fL e)).length=T.length+1+(fL e).length:=by simp [gD];omega
  rw[p]at l;have d:=Xw (X:=(T++[87])++jP (fL e)) (Y:=pY (T.length+1+(fL e).length+1) t) (o:=o) 69 (.inl rfl);have E:yC [87] (T,o)=some (T++[87],o):=y 87 ⟨by decide,by decide,by decide,by decide⟩ T o;have C:yC [68] ((T++[87])++jP (fL e),o)=some (((T++[87])++jP (fL e))++[o],(((T++[87])++jP (fL e)).length:Int)):=by simp [yC,Q0]
  rw[C2,Y6,lV,E,bX,lV,qG _ (xG he),bX,lV,C,bX,lV,l,bX,P8,d,u,v];simp [gJ]
theorem MZ {d:Int} {l:List Sm} (h: ∀m∈l,SS V A d m):yC (iL l++[36]) ([],0)=some (pY 0 l++[36],0):=by
 rw[lV,XM (fun m b T o=>⟨ZK (h m b) T o,jL (h m b) _⟩),bX];rw[qG [36] (fun c a=>by rw[bE]at a;subst a;exact⟨by decide,by decide,by decide,by decide⟩)];rfl
theorem Di (u:dE): ∀x∈jP u,0≤x∧x<4294967296:=fun x a=>by
 obtain⟨c,_,rfl⟩:=lI.1 a;have:=Vw c;omega
theorem P7 {N:Nat} (a:N≤3000): ∀{l:List Sm} {b:Nat},(∀m∈l, ∀b,b+(nY m).length≤N→ ∀x∈yL b m,0≤x∧x<4294967296)→b+(iL l).length≤N→ ∀x∈pY b l,0≤x∧x<4294967296
 |[],_,_,_,x,hx=>by simp [pY]at hx
 |m::l,b,h,hb,x,hx=>by
  rw[iL,aB]at hb;rw[pY,eV]at hx;rcases hx with hx|hx
  ·exact h m (dN) b (by omega) x hx
  exact P7 a (fun y c=>h y (eR _ c)) (by omega) x hx
theorem WJ {N:Nat} (j:N≤3000) {g:Int} {m:Sm} (h:SS V A g m): ∀b,b+(nY m).length≤N→ ∀x∈yL b m,0≤x∧x<4294967296:=by
 have f: ∀k:Int,0≤k∧k<4294967296→ ∀x∈[k],0≤x∧x<4294967296:=fun k n x i=>by rw[bE]at i;subst i;exact n
 have Ol: ∀{a b:List Int},(∀x∈a,0≤x∧x<4294967296)→(∀x∈b,0≤x∧x<4294967296)→ ∀x∈a++b,0≤x∧x<4294967296:=fun l d x i=>by
  rcases eV.1 i with h|h
  ·exact l x h
  exact d x h
 induction h with
 |set g c e hl hc hV he=>intro b d;rw[Z0];have:=Vw c;exact Ol (Di _) (Ol (f _ (by decide)) (f _ (by omega)))
 |store g a e hl hA l he=>intro b d;rw[Y9];exact Ol (Di _) (Ol (Di _) (f _ (by decide)))
 |put g e hl he=>intro b d;rw[Y8];exact Ol (Di _) (f _ (by decide))
 |cond g e t hl he ht ih=>
  intro b d;rw[C3]at d;simp only[aB,aJ,aT]at d;rw[Y7];exact Ol (Di _) (Ol (f _ (by omega)) (Ol (P7 j ih (by omega)) (f _ (by decide))))
 |loop g e t hl he ht ih=>
  intro b d;rw[C2]at d;simp only[aB,aJ,aT]at d;rw[Y6];exact Ol (f _ (by decide)) (Ol (Di _) (Ol (f _ (by omega)) (Ol (P7 j ih (by omega)) (f _ (by decide)))))
end
end
section
variable {V : UInt8 → Prop} {A : Prop} {rs : dE → Bool × Int} {W : List Int} {cx : Cx} {inp : dE}
theorem RA {q d n:Nat} {x:Int} {s:Mc} (f:yF W (4 *q) (zM ((d+1:Nat):Int) (gB 19 2 0 (4 *(n:Int)+4)) (d:Int))) (k:s.mem[d+2]?=some x) (e:s.pc=((4 *q:Nat):Int)) (hd:d≤90) (l:n≤3000) (c:s.mem.length=4224):
  (x=0→ ∃a,Go W inp 3 s a∧a.pc=((4 *(n+1):Nat):Int)∧a.mem=s.mem∧a.rd=s.rd∧a.out=s.out)∧(x≠0→ ∃a,Go W inp 4 s a∧a.pc=((4 *(q+1):Nat):Int)∧a.mem=s.mem∧a.rd=s.rd∧a.out=s.out):=by
 have j:(s.hd q (d+1)).r 2=x:=Mc.m_some k
 have b:uG inp 19 2 0 (4 *(n:Int)+4) (s.hd q (d+1))=some (0,if x=0 then(s.hd q (d+1)).to (4 *(n:Int)+4)else(s.hd q (d+1)).nx):=by
  simp only[uG,j];rfl
 refine⟨fun h=>?_,fun h=>?_⟩
 ·obtain⟨k1,i⟩:=An (inp:=inp) f (by omega) e (by omega) c
  rw[b,bF h]at i;exact⟨_,k1.app (.one i),by show(4 *(n:Int)+4)=_;omega,rfl,rfl,rfl⟩
 rw[aO h]at b;have g:=Je f (by omega) e (by omega) (by omega) c b (by show((4 *q+2:Nat):Int)+1=_;omega) c;refine⟨_,g,rfl, ?_,rfl,rfl⟩;show s.mem.set (d+1) (s.m (d+1))=s.mem;exact Ab (Mc.m_get (by omega))
theorem NP {q d p:Nat} {s:Mc} (i:yF W (4 *q) (zM ((d+1:Nat):Int) (gB 22 2 0 0) (d:Int))) (j:s.mem[d+2]?=some ((4 *p:Nat):Int)) (g:s.pc=((4 *q:Nat):Int)) (hd:d≤90) (f:s.mem.length=4224):
  ∃a,Go W inp 3 s a∧a.pc=((4 *p:Nat):Int)∧a.mem=s.mem∧a.rd=s.rd∧a.out=s.out:=by
 have c:(s.hd q (d+1)).r 2=((4 *p:Nat):Int):=Mc.m_some j;obtain⟨k1,b⟩:=An (inp:=inp) i (by decide) g (by omega) f;have e:uG inp 22 2 0 0 (s.hd q (d+1))=some (0,(s.hd q (d+1)).to ((4 *p:Nat):Int)):=by simp only[uG,c];rfl
 rw[e]at b;exact⟨_,k1.app (.one b),rfl,rfl,rfl,rfl⟩
theorem TJ {q d:Nat} {x:Int} {s:Mc} (f:yF W (4 *q) (zM ((d+1:Nat):Int) (gB 24 2 0 0) (d:Int))) (k:s.mem[d+2]?=some x) (e:s.pc=((4 *q:Nat):Int)) (hd:d≤90) (c:s.mem.length=4224):
  (s.out.length<65536→ ∃a,Go W inp 4 s a∧a.pc=((4 *(q+1):Nat):Int)∧a.mem=s.mem∧a.rd=s.rd∧a.out=s.out++[UInt8.ofNat (IntKind.wrap .u8 x).toNat])∧(¬s.out.length<65536→ ∃a,Fin W inp 2 s 4 a∧a.out=s.out):=by
 have j:(s.hd q (d+1)).r 2=x:=Mc.m_some k
 have b:uG inp 24 2 0 0 (s.hd q (d+1))=if 65536≤s.out.length then some (4,(s.hd q (d+1)).stp)else some (0,{(s.hd q (d+1)).nx with out:=s.out++[UInt8.ofNat (IntKind.wrap .u8 x).toNat]}):=by
  simp only[uG,j];rfl
 refine⟨fun h=>?_,fun h=>?_⟩
 ·rw[aO (by omega)]at b
  have g:=Je f (by decide) e (by omega) (by omega) c b (by show((4 *q+2:Nat):Int)+1=_;omega) c;refine⟨_,g,rfl, ?_,rfl,rfl⟩;show s.mem.set (d+1) (s.m (d+1))=s.mem;exact Ab (Mc.m_get (by omega))
 obtain⟨k1,i⟩:=An (inp:=inp) f (by decide) e (by omega) c;rw[b,bF (by omega)]at i;exact⟨_,⟨_,k1,i⟩,rfl⟩
theorem TG {q d c:Nat} {x:Int} {s:Mc} (l:yF W (4 *q) (zM ((d+1:Nat):Int) (gB 17 2 0 (c:Int)) (d:Int))) (n:s.mem[d+2]?=some x) (k:s.pc=((4 *q:Nat):Int)) (hd:d≤90) (o:97≤c∧c≤122) (b:s.mem.length=4224):
  ∃a,Go W inp 4 s a∧a.pc=((4 *(q+1):Nat):Int)∧a.mem=s.mem.set c x∧a.rd=s.rd∧a.out=s.out:=by
 have f:(s.hd q (d+1)).r 2=x:=Mc.m_some n;have e:gR ((s.hd q (d+1)).r 0+(c:Int))=(c:Int):=by show gR (0+(c:Int))=_;rw[Int.zero_add,eL (by omega)]
 have j:(s.hd q (d+1)).mem.length=4224:=b
 have i:uG inp 17 2 0 (c:Int) (s.hd q (d+1))=some (0,{(s.hd q (d+1)).nx with mem:=s.mem.set c x}):=by
  simp only[uG,f,e,cA,j,show c<4224 by omega,cQ];rfl
 have g:=Je l (by omega) k (by omega) (by omega) b i (by show((4 *q+2:Nat):Int)+1=_;omega) (by show(s.mem.set c x).length=_;rw[dK];exact b);refine⟨_,g,rfl, ?_,rfl,rfl⟩;show(s.mem.set c x).set (d+1) (s.m (d+1))=s.mem.set c x;refine Ab ?_;rw[gX (by omega),aO (by omega)];exact Mc.m_get (by omega)
theorem NR {q d:Nat} {x v:Int} {s:Mc} (f:yF W (4 *q) [gB 16 2 0 (((d+2:Nat):Int)+1),gB 16 1 0 ((d+2:Nat):Int),gB 25 1 0 4096,gB 17 2 1 128]) (D:s.mem[d+2]?=some x) (E:0≤x) (C:s.mem[d+3]?=some v) (B:s.pc=((4 *q:Nat):Int)) (hd:d≤90) (i:s.mem.length=4224):
  (x<4096→ ∃a,Go W inp 4 s a∧a.pc=((4 *(q+1):Nat):Int)∧a.mem=s.mem.set (128+x.toNat) v∧a.rd=s.rd∧a.out=s.out)∧(¬x<4096→ ∃a,Fin W inp 2 s 3 a∧a.out=s.out):=by
 have o:W[4 *q]?=some (gB 16 2 0 ((d+2+1:Nat):Int)):=f 0 (by simp);have t:W[4 *q+1]?=some (gB 16 1 0 ((d+2:Nat):Int)):=f 1 (by simp);have u:W[4 *q+2]?=some (gB 25 1 0 4096):=f 2 (by simp);have y:W[4 *q+3]?=some (gB 17 2 1 128):=f 3 (by simp);have b:=Uc (inp:=inp) (d:=d+2) B o t (by omega) i;have b:Go W inp 2 s (s.hd q (d+2)):=b;have g:(s.hd q (d+2)).r 1=x:=Mc.m_some D;have j:(s.hd q (d+2)).r 2=v:=Mc.m_some C
 have c:nB W inp (s.hd q (d+2))=if x<4096 then some (0,(s.hd q (d+2)).nx)else some (3,(s.hd q (d+2)).stp):=by
  rw[mO (p:=4 *q+2) rfl u (by decide)];simp only[uG,g];rfl
 refine⟨fun h=>?_,fun h=>?_⟩
 ·rw[bF h]at c
  have n:nB W inp (s.hd q (d+2)).nx=some (0,{(s.hd q (d+2)).nx.nx with mem:=s.mem.set (128+x.toNat) v}):=by
   rw[mO (p:=4 *q+3) (by show((4 *q+2:Nat):Int)+1=_;omega) y (by decide)];have k:(s.hd q (d+2)).nx.r 1=x:=g;have l:(s.hd q (d+2)).nx.r 2=v:=j;have e:(gR (x+128)).toNat=128+x.toNat:=by rw[eL (by omega)];omega
   have z:(s.hd q (d+2)).nx.mem.length=4224:=i;simp only[uG,k,l,e,z,show 128+x.toNat<4224 by omega,cQ];rfl
  exact⟨_,b.app (.step c (.one n)),by show((4 *q+2:Nat):Int)+1+1=_;omega,rfl,rfl,rfl⟩
 rw[aO h]at c;exact⟨_,⟨_,b,c⟩,rfl⟩
theorem LU {N:Nat}: ∀{l:List Sm} {q d:Nat},(∀m∈l, ∀q,q+(nY m).length≤N→(iK (yL q m) q (zl d 0)).1=zl (d:Int) 0∧(yL q m).length=(nY m).length)→q+(iL l).length≤N→(iK (pY q l) q (zl d 0)).1=zl (d:Int) 0
 |[],_,_,_,_=>rfl
 |m::l,q,d,h,hq=>by
  rw[iL,aB]at hq;obtain⟨a,b⟩:=h m (dN) q (by omega);rw[pY,iJ,a,b];exact LU (fun x c=>h x (eR _ c)) (by omega)
theorem LQ {N:Nat} (k:N≤3000) {f:Int} {m:Sm} (h:SS V A f m): ∀(q d:Nat),(d:Int)+1≤f→q+(nY m).length≤N→(iK (yL q m) q (zl d 0)).1=zl (d:Int) 0:=by
 induction h with
 |set f c e hl hc hV he=>
  intro q d hd b;have l:97≤c.toNat∧c.toNat≤122:=by simp only[Ny,aV,bH]at hc;exact hc
  rw[Z0,iJ,lO he q d (by omega),iJ,eJ 58,(Vm (by omega)).2,eJ,(RG (by omega) (by omega)).2,show(((d+1:Nat):Int)- 1)=(d:Int)by omega]
 |store f a e hl hA ha he=>
  intro q d hd b;rw[Y9,iJ,lO ha q d (by omega),iJ,lO he _ (d+1) (by omega),eJ,(B0 (by omega)).2,show(((d+1+1:Nat):Int)- 2)=(d:Int)by omega]
 |put f e hl he=>
  intro q d hd b;rw[Y8,iJ,lO he q d (by omega),eJ,(pS (A:=941621248) (X:=gB 24 2 0 0) (g:=1) (by decide) (by decide) (by decide) (by decide) (by decide) (by decide) (by omega) (by omega)).2,show(((d+1:Nat):Int)+1 - 2)=(d:Int)by omega]
 |cond f e t hl he ht ih=>
  intro q d hd b;rw[C3]at b;simp only[aB,aJ,aT]at b;have j:=LU (N:=N) (q:=q+(fL e).length+1) (d:=d) (fun m i q b=>⟨ih m i q d (by omega) b,jL (ht m i) q⟩) (by omega);rw[Y7,iJ,lO he q d (by omega),iJ,eJ,(Nk (by omega) (by omega)).2,show(((d+1:Nat):Int)- 1)=(d:Int)by omega,iJ,gD];rw[show q+(fL e).length+[857735172+4 *((q+(fL e).length+1+(iL t).length:Nat):Int)].length=q+(fL e).length+1 from rfl,j,eJ];rw[(pS (A:=1125253120) (X:=gB 3 1 2 0) (g:=2) (by decide) (by decide) (by decide) (by decide) (by decide) (by decide) (by omega) (by omega)).2,show((d:Int)+2 - 2)=(d:Int)by omega]
 |loop f e t hl he ht ih=>
  intro q d hd b;rw[C2]at b;simp only[aB,aJ,aT]at b;have j:=LU (N:=N) (q:=q+1+(fL e).length+1) (d:=d+1) (fun m i q b=>⟨ih m i q (d+1) (by omega) b,jL (ht m i) q⟩) (by omega);rw[Y6,iJ,eJ,(Vl (by omega) (by omega)).2];rw[show zl ((d:Int)+1) 0=zl ((d+1:Nat):Int) 0 from rfl,show q+[(87:Int)].length=q+1 from rfl,iJ,lO he (q+1) (d+1) (by omega),gD,iJ,eJ,(Nk (by omega) (by omega)).2,show(((d+1+1:Nat):Int)- 1)=((d+1:Nat):Int)by omega,iJ];rw[show q+1+(fL e).length+[857735172+4 *((q+1+(fL e).length+1+(iL t).length:Nat):Int)].length=q+1+(fL e).length+1 from rfl,j,eJ];rw[(pS (A:=908066816) (X:=gB 22 2 0 0) (g:=1) (by decide) (by decide) (by decide) (by decide) (by decide) (by decide) (by omega) (by omega)).2,show(((d+1:Nat):Int)+1 - 2)=(d:Int)by omega]
end
def SR (V:UInt8→Prop) (A:Prop) (rs:dE→Bool×Int) (W:List Int) (cx:Cx) (q2 B d M tk:Nat) (s:Mc):Rz (Option Int×List Int)→Prop
 | .val p st'=>p=(none,[])∧ ∃k s',k+M *tk≤B+M *st'.ticks∧Go W cx.inp k s s'∧s'.pc=((4 *q2:Nat):Int)∧MR V A rs st' s'∧ ∀j,j<d+2→s'.mem[j]?=s.mem[j]?
 | .fin x st'=>x≠0∧(x=5∨ ∃k s',k+1+M *tk≤B+M *st'.ticks∧Fin W cx.inp k s x s'∧s'.out=st'.out)
structure He (V:UInt8→Prop) (A:Prop) (rs:dE→Bool×Int) (W:List Int) (cx:Cx) (N M n:Nat):Prop where
 S: ∀{lv:Int} {m:Sm},SS V A lv m→ ∀(q d:Nat) (st:RS) (s:Mc) (r:Rz (Option Int×List Int)),(d:Int)+1≤lv→q+(nY m).length≤N→yF W (4 *q) (iK (yL q m) q (zl d 0)).2→s.pc=((4 *q:Nat):Int)→MR V A rs st s→oW cx n rs [] m st=some r→SR V A rs W cx (q+(nY m).length) (4 *(nY m).length) d M st.ticks s r
 L: ∀{lv:Int} {l:List Sm},(∀m∈l,SS V A lv m)→ ∀(q d:Nat) (st:RS) (s:Mc) (r:Rz (Option Int×List Int)),(d:Int)+1≤lv→q+(iL l).length≤N→yF W (4 *q) (iK (pY q l) q (zl d 0)).2→s.pc=((4 *q:Nat):Int)→MR V A rs st s→nK cx n rs [] l st=some r→SR V A rs W cx (q+(iL l).length) (4 *(iL l).length) d M st.ticks s r
 Wh: ∀{lv:Int} {e:Ex} {t:List Sm},SX V A (lv+1) e→(∀m∈t,SS V A (lv+1) m)→lv≤24→ ∀(q d:Nat) (st:RS) (s:Mc) (r:Rz (Option Int×List Int)),(d:Int)+1≤lv→q+(nY (.mk 5 [] [e] t [])).length≤N→yF W (4 *q) (iK (yL q (.mk 5 [] [e] t [])) q (zl d 0)).2→s.pc=((4 *q:Nat):Int)→MR V A rs st s→xT cx n rs [] e t st=some r→SR V A rs W cx (q+(nY (.mk 5 [] [e] t [])).length) 0 d M st.ticks s r
section
variable {V : UInt8 → Prop} {A : Prop} {rs : dE → Bool × Int} {W : List Int} {cx : Cx}
theorem MR.same {st st':RS} {s s':Mc} (h:MR V A rs st s) (b:s'.mem=s.mem) (k:s'.rd=s.rd) (j:s'.out=s.out) (d:st'.vars=st.vars) (e:st'.arrs=st.arrs) (f:st'.read=st.read) (g:st'.out=st.out):MR V A rs st' s':=
 ⟨by rw[b];exact h.len,by rw[k,f];exact h.rd,by rw[j,g];exact h.out,fun c i=>by rw[d,b];exact h.vars c i,fun a=>by rw[e,b];exact h.arr a⟩
theorem VQ (hN:Nm V A rs) {N M n:Nat} (K:N≤3000) (E:He V A rs W cx N M n) {F:Int} {l:List Sm} (h: ∀m∈l,SS V A F m) (q d:Nat) (st:RS) (s:Mc) (r:Rz (Option Int×List Int)) (hd:(d:Int)+1≤F) (R:q+(iL l).length≤N) (D:yF W (4 *q) (iK (pY q l) q (zl d 0)).2) (C:s.pc=((4 *q:Nat):Int)) (z:MR V A rs st s) (a:nK cx (n+1) rs [] l st=some r):SR V A rs W cx (q+(iL l).length) (4 *(iL l).length) d M st.ticks s r:=by
 cases l with
 |nil=>
  simp only[nK,Option.some.injEq]at a;subst a;exact⟨rfl,0,s,by omega, .nil s,by rw[C];rfl,z,fun _ _=>rfl⟩
 |cons m l=>
  have i:=h m (dN);have Q:=jL i q;rw[iL,aB]at R;simp only[nK]at a;rw[pY]at D;obtain⟨w1,G⟩:=jM D;rw[Q,LQ K i q d hd (by omega)]at G;rw[iL,aB]
  cases b:oW cx n rs [] m st with
  |none=>rw[b]at a;cases a
  |some ra=>
  rw[b]at a;have e:=E.S i q d st s ra hd (by omega) w1 C z b
  cases ra with
  |fin x st1=>
   simp only[bindR,Option.some.injEq]at a;subst a;obtain⟨v,e⟩:=e;refine⟨v, ?_⟩;rcases e with f|⟨k,u,O,g,o⟩
   ·exact .inl f
   exact .inr ⟨k,u,by omega,g,o⟩
  |val p st1=>
   obtain⟨rfl,k,Z,O,y,H,I,J⟩:=e;simp only[bindR]at a;have c:=E.L (fun x b=>h x (eR _ b)) (q+(nY m).length) d st1 Z r hd (by omega) G H I a
   cases r with
   |fin x st2=>
    obtain⟨v,c⟩:=c;refine⟨v, ?_⟩;rcases c with f|⟨t,u,P,g,o⟩
    ·exact .inl f
    exact .inr ⟨k+t,u,by omega,Fin.after y g,o⟩
   |val p st2=>
    obtain⟨rfl,t,s2,P,T,U,X,Y⟩:=c;exact⟨rfl,k+t,s2,by omega,y.app T,by rw[U,gJ],X,fun j B=>by rw[Y j B,J j B]⟩
theorem VP (K:Nm V A rs) {N M n:Nat} (a4:N≤3000) (ih:He V A rs W cx N M n) {lv:Int} {m:Sm} (h:SS V A lv m) (q d:Nat) (st:RS) (s:Mc) (r:Rz (Option Int×List Int)) (hd:(d:Int)+1≤lv) (hq:q+(nY m).length≤N) (R:yF W (4 *q) (iK (yL q m) q (zl d 0)).2) (hp:s.pc=((4 *q:Nat):Int)) (hM:MR V A rs st s) (f:oW cx (n+1) rs [] m st=some r):SR V A rs W cx (q+(nY m).length) (4 *(nY m).length) d M st.ticks s r:=by
 cases h with
 |set _ c e hl hc hV he=>
  have a6:=K.lt c hV;rw[Z0]at R;obtain⟨w1,u⟩:=jM R;rw[lO he q d (by omega),gD]at u;obtain⟨u,P⟩:=jM u;rw[eJ,(Vm (by omega)).1]at u;rw[eJ 58,(Vm (by omega)).2,eJ,(RG (by omega) (by omega)).1,show(((d+1:Nat):Int)- 1)=(d:Int)by omega]at P;simp only[oW,cQ,dJ]at f;rw[RZ,aB]
  cases z:jZ cx n rs [] e st with
  |none=>rw[z]at f;cases f
  |some ra=>
  rw[z]at f;have J:=Pe K he q d n st s ra (by omega) w1 hp hM z
  cases ra with
  |fin x st1=>
   simp only[bindR,Option.some.injEq]at f;subst f;obtain⟨o,H,x5,k,G,hk,E,F⟩:=J;exact⟨H, .inr ⟨k,G,by rw[o];omega,E,F⟩⟩
  |val x st1=>
   obtain⟨o,U,k,s1,hk,I,g2,l,g4,T⟩:=J;obtain⟨l1,l2⟩:=K.gl c hV;obtain⟨v0,v1,_,_⟩:=l.vars c hV;have a3:=(bD.1 v1).1;simp only[bindR,Nr,l1,l2,cQ,cK,dT,a3,eE,Option.some.injEq]at f;subst f;obtain⟨O,Y,j2,B,j4,j5⟩:=Ub (inp:=cx.inp) u g2 (by omega) l.len;obtain⟨Z,k1,C,k3,k4,S⟩:=TG (inp:=cx.inp) (x:=x) P (by rw[B];exact g4) j2 (by omega) a6 (by rw[B];exact l.len);rw[B]at k3;refine⟨rfl,k+4+4,Z, ?_,(I.app Y).app k1, ?_, ?_,fun j D=>?_⟩
   ·show k+4+4+M *st.ticks≤_+M *st1.ticks
    rw[o];simp only[aJ,aT];omega
   ·rw[C];simp only[aJ,aT];simp only[gJ]
   ·refine⟨by rw[k3,dK];exact l.len,by rw[k4,j4];exact l.rd,by rw[S,j5];exact l.out,fun Q a0=>?_,fun hA=>?_⟩
    ·obtain⟨l3,l4⟩:=K.gl Q a0
     have a2:=l.len;by_cases e:Q=c
     ·subst e
      exact⟨x,by show(st1.vars.set _ x)[_]?=_;rw[gX a3,bF rfl],U,by rw[k3,gX (by omega),bF rfl]⟩
     have a7: ¬((rs [c]).2).toNat=((rs [Q]).2).toNat:=fun e2=>e (K.inj Q c a0 hV (by omega));have a8: ¬c.toNat=Q.toNat:=fun e2=>e (by rw[←UInt8.toNat_inj];exact e2.symm);obtain⟨v,p1,p2,p3⟩:=l.vars Q a0;exact⟨v,by show(st1.vars.set _ x)[_]?=_;rw[gX a3,aO a7];exact p1,p2,by rw[k3,gX (by omega),aO a8];exact p3⟩
    obtain⟨L,L1,L2,L3⟩:=l.arr hA;have a2:=l.len;refine⟨L,L1,L2,fun j D=>?_⟩;obtain⟨v,p1,p2,p3⟩:=L3 j D;exact⟨v,p1,p2,by rw[k3,gX (by omega),aO (by omega)];exact p3⟩
   have a2:=l.len;rw[k3,gX (by omega),aO (by omega)];exact T j D
 |store _ a e hl hA ha he=>
  rw[Y9]at R;obtain⟨w1,u⟩:=jM R;rw[lO ha q d (by omega),gD]at u;obtain⟨u,P⟩:=jM u;rw[lO he _ (d+1) (by omega),gD,eJ,(B0 (by omega)).1]at P;simp only[oW,Int.reduceEq,cQ,dT,dJ,fB,K.ar hA]at f;rw[RY,aB,aB,bW]
  cases z:jZ cx n rs [] a st with
  |none=>rw[z]at f;cases f
  |some ra=>
  rw[z]at f;have J:=Pe K ha q d n st s ra (by omega) w1 hp hM z
  cases ra with
  |fin x st1=>
   simp only[bindR,Option.some.injEq]at f;subst f;obtain⟨o,H,x5,k,G,hk,E,F⟩:=J;exact⟨H, .inr ⟨k,G,by rw[o];omega,E,F⟩⟩
  |val x st1=>
  obtain⟨o,U,k,s1,hk,I,g2,l,g4,T⟩:=J;simp only[bindR]at f
  cases hy:jZ cx n rs [] e st1 with
  |none=>rw[hy]at f;cases f
  |some rb=>
  rw[hy]at f;have hF:=Pe K he (q+(fL a).length) (d+1) n st1 s1 rb (by omega) u g2 l hy
  cases rb with
  |fin y st2=>
   simp only[Option.some.injEq]at f;subst f;obtain⟨t2,H,x5,C,G,b4,E,F⟩:=hF;exact⟨H, .inr ⟨k+C,G,by rw[t2,o];omega,Fin.after I E,F⟩⟩
  |val y st2=>
   obtain⟨t2,hv,j,O,D,Y,j2,B,j4,j5⟩:=hF;obtain⟨L,L1,L2,L3⟩:=B.arr hA;simp only[A9,Int.toNat_zero,L1,L2,Int.le_refl,cQ]at f;have b0:O.mem[d+2]?=some x:=by rw[j5 _ (by omega)];exact g4
   obtain⟨b1,b2⟩:=NR (inp:=cx.inp) (d:=d) P b0 U.1 j4 j2 (by omega) B.len;by_cases c:x<4096
   ·rw[bF (by have:=U.1;omega)]at f
    simp only[Option.some.injEq]at f;subst f;obtain⟨Z,k1,C,k3,k4,S⟩:=b1 c;have a2:=B.len;have b5:=U.1;refine⟨rfl,k+j+4,Z, ?_,(I.app Y).app k1,by rw[C];simp only[gJ], ?_,fun i hi=>?_⟩
    ·show k+j+4+M *st.ticks≤_+M *st2.ticks
     rw[t2,o];omega
    ·refine⟨by rw[k3,dK];exact B.len,by rw[k4];exact B.rd,by rw[S];exact B.out,fun Q a0=>?_,fun hA=>?_⟩
     ·obtain⟨v,p1,p2,p3⟩:=B.vars Q a0
      have:=K.lt Q a0;exact⟨v,p1,p2,by rw[k3,gX (by omega),aO (by omega)];exact p3⟩
     have a9:(Ho 0 x.toNat y st2).arrs[0]?=some (L.set x.toNat y):=by
      show(st2.arrs.modify (0:Int).toNat _)[0]?=_;rw[Int.toNat_zero,Vf,L1];rfl
     refine⟨_,a9,by rw[dK];exact L2,fun i hi=>?_⟩;by_cases e:x.toNat=i
     ·subst e
      exact⟨y,by rw[gX (by omega),bF rfl],hv,by rw[k3,gX (by omega),bF rfl]⟩
     obtain⟨v,p1,p2,p3⟩:=L3 i hi;exact⟨v,by rw[gX (by omega),aO e];exact p1,p2,by rw[k3,gX (by omega),aO (by omega)];exact p3⟩
    rw[k3,gX (by omega),aO (by omega),j5 i (by omega),T i hi]
   rw[aO (by have:=U.1;omega)]at f;simp only[Option.some.injEq]at f;subst f;obtain⟨Z,k1,C⟩:=b2 c;exact⟨by decide, .inr ⟨k+j+2,Z,by rw[t2,o];omega,Fin.after (I.app Y) k1,by rw[C,B.out]⟩⟩
 |put _ e hl he=>
  rw[Y8]at R;obtain⟨w1,u⟩:=jM R;rw[lO he q d (by omega),gD,eJ,(pS (A:=941621248) (X:=gB 24 2 0 0) (g:=1) (by decide) (by decide) (by decide) (by decide) (by decide) (by decide) (by omega) (by omega)).1,show(((d+1:Nat):Int)+1 - 2)=(d:Int)by omega]at u;simp only[oW,Int.reduceEq,cQ,dT,dJ]at f;rw[RX,aB,bW]
  cases z:jZ cx n rs [] e st with
  |none=>rw[z]at f;cases f
  |some ra=>
  rw[z]at f;have J:=Pe K he q d n st s ra (by omega) w1 hp hM z
  cases ra with
  |fin x st1=>
   simp only[bindR,Option.some.injEq]at f;subst f;obtain⟨o,H,x5,k,G,hk,E,F⟩:=J;exact⟨H, .inr ⟨k,G,by rw[o];omega,E,F⟩⟩
  |val x st1=>
   obtain⟨o,U,k,s1,hk,I,g2,l,g4,T⟩:=J;obtain⟨b1,b2⟩:=TJ (inp:=cx.inp) (x:=x) u g4 g2 (by omega) l.len;simp only[bindR,Ge]at f;have a1:=l.out;by_cases c:65536≤st1.out.length
   ·rw[bF c]at f
    simp only[Option.some.injEq]at f;subst f;obtain⟨O,k1,C⟩:=b2 (by rw[a1];omega);exact⟨by decide, .inr ⟨k+2,O,by rw[o];omega,Fin.after I k1,by rw[C,a1]⟩⟩
   rw[aO c]at f;simp only[Option.some.injEq]at f;subst f;obtain⟨O,k1,C,k3,k4,S⟩:=b1 (by rw[a1];omega);refine⟨rfl,k+4,O, ?_,I.app k1,by rw[C,gJ], ?_,fun j D=>by rw[k3];exact T j D⟩
   ·show k+4+M *st.ticks≤_+M *st1.ticks
    rw[o];omega
   exact⟨by rw[k3];exact l.len,by rw[k4];exact l.rd,by rw[S,a1],fun c hc=>by rw[k3];exact l.vars c hc,fun a=>by rw[k3];exact l.arr a⟩
 |cond _ e t hl he ht=>
  rw[C3]at hq;simp only[aB,aJ,aT]at hq;have a5:=qV (b:=q+(fL e).length+1) fun x z=>jL (ht x z);have b3:=LU (N:=N) (q:=q+(fL e).length+1) (d:=d) (fun m hm q hq=>⟨LQ a4 (ht m hm) q d (by omega) hq,jL (ht m hm) q⟩) (by omega);rw[Y7]at R;obtain⟨w1,u⟩:=jM R;rw[lO he q d (by omega),gD]at u;obtain⟨u,P⟩:=jM u;rw[eJ,(Nk (by omega) (by omega)).1,show(((d+1:Nat):Int)- 1)=(d:Int)by omega]at u;rw[eJ,(Nk (by omega) (by omega)).2,show(((d+1:Nat):Int)- 1)=(d:Int)by omega,bW]at P;obtain⟨P,w4⟩:=jM P;rw[b3,a5,eJ,(pS (A:=1125253120) (X:=gB 3 1 2 0) (g:=2) (by decide) (by decide) (by decide) (by decide) (by decide) (by decide) (by omega) (by omega)).1,show((d:Int)+2 - 2)=(d:Int)by omega]at w4;simp only[oW,Int.reduceEq,cQ,dT,dJ]at f;rw[C3];simp only[aB,aJ,aT]
  cases z:jZ cx n rs [] e st with
  |none=>rw[z]at f;cases f
  |some ra=>
  rw[z]at f;have J:=Pe K he q d n st s ra (by omega) w1 hp hM z
  cases ra with
  |fin x st1=>
   simp only[bindR,Option.some.injEq]at f;subst f;obtain⟨o,H,x5,k,G,hk,E,F⟩:=J;exact⟨H, .inr ⟨k,G,by rw[o];omega,E,F⟩⟩
  |val x st1=>
   obtain⟨o,U,k,s1,hk,I,g2,l,g4,T⟩:=J;simp only[bindR]at f;obtain⟨b1,b2⟩:=RA (inp:=cx.inp) (n:=q+(fL e).length+1+(iL t).length) u g4 g2 (by omega) (by omega) l.len;by_cases c:x=0
   ·rw[bF c]at f
    cases n with
    |zero=>simp [nK]at f
    |succ n=>
    simp only[nK,Option.some.injEq]at f;subst f;obtain⟨O,k1,C,k3,k4,S⟩:=b1 c;refine⟨rfl,k+3,O, ?_,I.app k1, ?_,l.same k3 k4 S rfl rfl rfl rfl,fun j D=>by rw[k3];exact T j D⟩
    ·rw[o];omega
    rw[C];congr 2;omega
   rw[aO c]at f;obtain⟨O,k1,C,k3,k4,S⟩:=b2 c;have hL:=ih.L ht (q+(fL e).length+1) d st1 O r (by omega) (by omega) P C (l.same k3 k4 S rfl rfl rfl rfl) f
   cases r with
   |fin y st2=>
    obtain⟨H,hL⟩:=hL;refine⟨H, ?_⟩;rcases hL with h5|⟨j,G,D,E,F⟩
    ·exact .inl h5
    exact .inr ⟨k+4+j,G,by rw[o]at D;omega,Fin.after (I.app k1) E,F⟩
   |val p st2=>
    obtain⟨rfl,j,Z,D,Y,j2,B,j4⟩:=hL;obtain⟨s4,i1,i2,i3,i4,i5⟩:=Ub (inp:=cx.inp) w4 j2 (by omega) B.len;refine⟨rfl,k+4+j+4,s4, ?_,((I.app k1).app Y).app i1, ?_,B.same i3 i4 i5 rfl rfl rfl rfl,fun i hi=>by rw[i3,j4 i hi,k3];exact T i hi⟩
    ·rw[o]at D;omega
    rw[i2];congr 2;omega
 |loop _ e t hl he ht=>
  simp only[oW,Int.reduceEq,cQ,dT,dJ]at f;have hW:=ih.Wh he ht hl q d st s r hd hq R hp hM f
  cases r with
  |fin y st2=>
   obtain⟨H,hL⟩:=hW;refine⟨H, ?_⟩;rcases hL with h5|⟨j,G,D,E,F⟩
   ·exact .inl h5
   exact .inr ⟨j,G,by omega,E,F⟩
  |val p st2=>
   obtain⟨rfl,j,Z,D,Y,j2,B,j4⟩:=hW;exact⟨rfl,j,Z,by omega,Y,j2,B,j4⟩
theorem VO (hN:Nm V A rs) {N M n:Nat} (a7:N≤3000) (b6:M=4 *N) (ih:He V A rs W cx N M n) {K:Int} {e:Ex} {t:List Sm} (Y:SX V A (K+1) e) (D: ∀m∈t,SS V A (K+1) m) (hl:K≤24) (q d:Nat) (st:RS) (s:Mc) (r:Rz (Option Int×List Int)) (hd:(d:Int)+1≤K) (C:q+(nY (.mk 5 [] [e] t [])).length≤N) (Z:yF W (4 *q) (iK (yL q (.mk 5 [] [e] t [])) q (zl d 0)).2) (hp:s.pc=((4 *q:Nat):Int)) (U:MR V A rs st s) (a:xT cx (n+1) rs [] e t st=some r):SR V A rs W cx (q+(nY (.mk 5 [] [e] t [])).length) 0 d M st.ticks s r:=by
 have a9:=C;have b3:=Z;rw[C2]at C⊢;simp only[aB,aJ,aT]at C⊢;have a8:=qV (b:=q+1+(fL e).length+1) fun x E=>jL (D x E);have b4:=LU (N:=N) (q:=q+1+(fL e).length+1) (d:=d+1) (fun m hm q C=>⟨LQ a7 (D m hm) q (d+1) (by omega) C,jL (D m hm) q⟩) (by omega);rw[Y6]at Z;obtain⟨w1,O⟩:=jM Z;rw[eJ,(Vl (by omega) (by omega)).1,show((d:Int)+1)=((d+1:Nat):Int)from rfl]at w1;rw[eJ,(Vl (by omega) (by omega)).2,show zl ((d:Int)+1) 0=zl ((d+1:Nat):Int) 0 from rfl,bW]at O;obtain⟨O,G⟩:=jM O;rw[lO Y (q+1) (d+1) (by omega),gD]at G;obtain⟨G,P⟩:=jM G;rw[eJ,(Nk (by omega) (by omega)).1,show(((d+1+1:Nat):Int)- 1)=((d+1:Nat):Int)by omega]at G;rw[eJ,(Nk (by omega) (by omega)).2,show(((d+1+1:Nat):Int)- 1)=((d+1:Nat):Int)by omega,bW]at P;obtain⟨P,w5⟩:=jM P;rw[b4,a8,eJ,(pS (A:=908066816) (X:=gB 22 2 0 0) (g:=1) (by decide) (by decide) (by decide) (by decide) (by decide) (by decide) (by omega) (by omega)).1,show(((d+1:Nat):Int)+1 - 2)=(d:Int)by omega]at w5;simp only[xT,lP]at a;by_cases f:cx.fuel≤st.ticks
 ·rw[bF f]at a
  simp only[bindR,Option.some.injEq]at a;subst a;exact⟨by decide, .inl rfl⟩
 rw[aO f]at a;simp only[bindR]at a
 -- the place of W is put on the stack
 obtain⟨s1,I,a2,a3,a4,a5⟩:=xP (inp:=cx.inp) (e:=d+1) (v:=((4 *q:Nat):Int)) (rd:=s.rd) w1 (by omega) hp (by omega) (by omega) U.len (by
  have :(4 *(q:Int))=((4 *q:Nat):Int):=by omega
  rw[this];rfl)
 obtain⟨p1,p2,p3,p4⟩:=Px (v:=((4 *q:Nat):Int)) U.len (d:=d) (by omega);rw[←a3]at p1 p2 p3 p4;have a6:MR V A rs {st with ticks:=st.ticks+1} s1:=(U.keep hN p1 p2 a4 a5).same rfl rfl rfl rfl rfl rfl rfl
 cases E:jZ cx n rs [] e {st with ticks:=st.ticks+1}with
 |none=>rw[E]at a;cases a
 |some ra=>
 rw[E]at a;have hE:=Pe hN Y (q+1) (d+1) n {st with ticks:=st.ticks+1} s1 ra (by omega) O a2 a6 E;have b7:M *(st.ticks+1)=M *st.ticks+M:=Nat.mul_succ _ _
 cases ra with
 |fin x st1=>
  simp only[Option.some.injEq]at a;subst a;obtain⟨l,H,x5,k,F,hk,f,B⟩:=hE;exact⟨H, .inr ⟨4+k,F,by rw[l];show 4+k+1+M *st.ticks≤0+M *(st.ticks+1);omega,Fin.after I f,B⟩⟩
 |val x st1=>
  obtain⟨l,hu,k,s2,hk,Q,g2,R,g4,S⟩:=hE;have l:st1.ticks=st.ticks+1:=l;simp only at a;have b0:s2.mem[d+2]?=some ((4 *q:Nat):Int):=by rw[S _ (by omega)];exact p3
  obtain⟨b1,b2⟩:=RA (inp:=cx.inp) (d:=d+1) (n:=q+1+(fL e).length+1+(iL t).length) G g4 g2 (by omega) (by omega) R.len;by_cases c:x=0
  ·rw[bF c]at a
   simp only[Option.some.injEq]at a;subst a;obtain⟨s3,k1,k2,k3,k4,k5⟩:=b1 c;refine⟨rfl,4+k+3,s3, ?_,(I.app Q).app k1, ?_,R.same k3 k4 k5 rfl rfl rfl rfl,fun j z=>by rw[k3,S j (by omega)];exact p4 j z⟩
   ·rw[l];omega
   rw[k2];congr 2;omega
  rw[aO c]at a;obtain⟨s3,k1,k2,k3,k4,k5⟩:=b2 c
  cases hy:nK cx n rs [] t st1 with
  |none=>rw[hy]at a;cases a
  |some rb=>
  rw[hy]at a;have o:=ih.L D (q+1+(fL e).length+1) (d+1) st1 s3 rb (by omega) (by omega) P k2 (R.same k3 k4 k5 rfl rfl rfl rfl) hy
  cases rb with
  |fin y st2=>
   simp only[Option.some.injEq]at a;subst a;obtain⟨H,o⟩:=o;refine⟨H, ?_⟩;rcases o with T|⟨j,F,z,f,B⟩
   ·exact .inl T
   exact .inr ⟨4+k+4+j,F,by rw[l]at z;omega,Fin.after ((I.app Q).app k1) f,B⟩
  |val p st2=>
   obtain⟨rfl,j,s4,z,j1,j2,j3,j4⟩:=o;simp only at a;obtain⟨s5,i1,i2,i3,i4,i5⟩:=NP (inp:=cx.inp) (p:=q) w5 (by rw[j4 _ (by omega),k3];exact b0) j2 (by omega) j3.len;have J:=ih.Wh Y D hl q d st2 s5 r hd a9 b3 i2 (j3.same i3 i4 i5 rfl rfl rfl rfl) a;have b5: ∀i,i<d+2→s5.mem[i]?=s.mem[i]?:=fun i u=>by rw[i3,j4 i (by omega),k3,S i (by omega)];exact p4 i u
   rw[C2]at J;simp only[aB,aJ,aT]at J;rw[l]at z;have a0:=(((I.app Q).app k1).app j1).app i1
   cases r with
   |fin y st3=>
    obtain⟨H,o⟩:=J;refine⟨H, ?_⟩;rcases o with T|⟨i,F,u,f,B⟩
    ·exact .inl T
    exact .inr ⟨_,F,(by show 4+k+4+j+3+i+1+M *st.ticks≤0+M *st3.ticks;omega),Fin.after a0 f,B⟩
   |val p st3=>
    obtain⟨rfl,i,s6,u,m1,m2,m3,m4⟩:=J;exact⟨rfl,_,s6,(by show 4+k+4+j+3+i+M *st.ticks≤0+M *st3.ticks;omega),a0.app m1,m2,m3,fun i u=>by rw[m4 i u,b5 i u]⟩
theorem ZG (a:Nm V A rs) {N M:Nat} (b:N≤3000) (c:M=4 *N) (n:Nat):He V A rs W cx N M n:=by
 induction n with
 |zero=>exact⟨fun _ _ _ _ _ _ _ _ _ _ _ h=>by simp [oW]at h,fun _ _ _ _ _ _ _ _ _ _ _ h=>by simp [nK]at h,fun _ _ _ _ _ _ _ _ _ _ _ _ _ h=>by simp [xT]at h⟩
 |succ n ih=>exact⟨VP a b ih,VQ a b ih,VO a b c ih⟩
end
section
variable {cx : Cx} {r v : Nat} {abs : List Nat} {st : RS} {vo : AV} {H : Hp}
end
section
variable {cx : Cx} {r v : Nat} {abs : List Nat} {st : RS} {vo : AV} {H : Hp}
end
section
variable {cx : Cx} {r v : Nat} {abs : List Nat} {n : Nat}
end
section
variable {cx : Cx} {r v : Nat} {abs : List Nat} {n : Nat}
def Po (cx:Cx) (n:Nat) (f:Cf) (len:Nat) (vs:List Int) (st:RS):Option (Rz Int):=
 bindR (some (lP cx st)) fun _ st=>bindR (nK cx n f.res (vs++List.replicate (f.words-len) 0) f.body st) fun r st=>some (.val (r.1.getD 0) st)
end
section
variable {cx : Cx} {r v : Nat} {abs : List Nat} {n : Nat}
end
section
variable {cx : Cx} {r v : Nat} {abs : List Nat} {n : Nat}
end
def SJ (e:Int) (out:dE) (t:Nat):AV:= .agg [.int .i64 e, .str out, .int .i64 t]
end Go.Proofs.YtaecpjgmcffliaaGreatDoor
namespace Go.Al
structure Vi (b7 bv:Nat) (bs:List Nat) (A:List (List Int)) (va:AV) (H:Hp):Prop where
 l:bs.length=A.length
 o:dZ 1 va (fR bs A) H
 a: ∀(i:Nat) b l,bs[i]?=some b→A[i]?=some l→H b=some (.rows 1 (l.map gI))
 nd:bs.Nodup
 nv:bv∉bs
 n7:b7∉bs
 ov:off va bv
 o7:off va b7
 ob: ∀b∈bs,off va b
theorem Vi.some {e f:Nat} {c:List Nat} {A:List (List Int)} {k:AV} {H:Hp} (h:Vi e f c A k H) {b:Nat} (g:b∈c): ∃l,H b=some (.rows 1 l):=by
 obtain⟨i,d⟩:=gO g;have j:i<A.length:=by have:=(bD.1 d).1;rw[←h.l];exact this
 exact⟨_,h.a i b _ d (aC j)⟩
theorem P1 {sz:Nat} {v:AV} {rows:List (List AV)} {H H':Hp} (h:dZ sz v rows H) (d: ∀b o,H b=Option.some o→H' b=Option.some o):dZ sz v rows H':=by
 rcases h with g|⟨b,a,c⟩
 ·exact .inl g
 exact .inr ⟨b,a,d _ _ c⟩
theorem Vi.keep {c e:Nat} {d:List Nat} {A:List (List Int)} {g:AV} {H H':Hp} (h:Vi c e d A g H) (f: ∀b o,H b=Option.some o→H' b=Option.some o):Vi c e d A g H':=
 {h with o:=P1 h.o f,a:=fun i b l j k=>f _ _ (h.a i b l j k)}
theorem Bd: ∀(a:List Nat) (A:List (List Int)) (b:Nat) (l:List Int),a.length=A.length→fR (a++[b]) (A++[l])=fR a A++[[.osl 1 b l.length]]
 |[],[],_,_,_=>rfl
 |x::a,y::A,b,l,h=>by simp only[cU,fR,Bd a A b l (by simpa using h)]
 |[],_::_,_,_,h=>by simp at h
 |_::_,[],_,_,h=>by simp at h
theorem Vi.snoc {f j:Nat} {d:List Nat} {A:List (List Int)} {t v':AV} {H H':Hp} (h:Vi f j d A t H) {b:Nat} {l:List Int} (z:H b=none) (u:H f≠none) (B:H j≠none) (I:dZ 1 v' (fR d A++[[.osl 1 b l.length]]) H')
  (G: ∀x o,upd H b (Option.some (.rows 1 (l.map gI))) x=Option.some o→t≠ .osl 1 x (fR d A).length→H' x=Option.some o) (k: ∀x,off t x→upd H b (Option.some (.rows 1 (l.map gI))) x≠none→off v' x) {g O:Nat} {T:List (List AV)} (D:H' g=Option.some (.rows O T)) (P:iG) (J:O≠1:=by decide):
  Vi f j (d++[b]) (A++[l]) v' (upd H' g (Option.some P)):=by
 have nb: ∀x,H x≠none→x≠b:=fun x hx e=>hx (by rw[e];exact z);have N:off t b:=h.o.new z;have n: ∀x,x≠b→upd H b (Option.some (.rows 1 (l.map gI))) x=H x:=fun x hx=>cG _ _ hx;have v: ∀x∈d,H x≠none:=fun x hx=>by obtain⟨l,c⟩:=h.some hx;rw[c];exact bY _
 have E:H' b=Option.some (.rows 1 (l.map gI)):=G b _ (bO _ _ _) (N _ _);have C: ∀x p,H' x=Option.some (.rows 1 p)→x≠g:=fun x p hx e=>by rw[e,D]at hx;cases hx;exact J rfl
 have Q:off v' g:=I.offsz D J;refine⟨by simp [h.l],by rw[Bd _ _ _ _ h.l];exact I.off Q _,fun i x p hx c=>?_, ?_, ?_, ?_,k j h.ov (by rw[n _ (nb _ B)];exact B),k f h.o7 (by rw[n _ (nb _ u)];exact u),fun x hx=>?_⟩
 ·by_cases F:i<d.length
  ·rw[fC F]at hx
   rw[fC (by rw[←h.l];exact F)]at c;have L:=h.a i x p hx c;have K:=G x _ (by rw[n _ (nb _ (by rw[L];exact bY _))];exact L) (h.ob x (aW hx) _ _);rw[cG _ _ (C _ _ K)];exact K
  rw[gC (by omega)]at hx;rw[gC (by rw[←h.l];omega),←h.l]at c;obtain⟨R,U⟩:=bD.1 hx;have S:i-d.length=0:=by simpa using R
  rw[S]at hx c;simp only[dJ,Option.some.injEq]at hx c;subst hx;subst c;rw[cG _ _ (C _ _ E)];exact E
 ·rw[List.nodup_append]
  refine⟨h.nd,by simp,fun x hx y M e=>?_⟩;rw[bE]at M;subst M;subst e;exact v _ hx z
 ·simp only[eV,bE,not_or]
  exact⟨h.nv,nb _ B⟩
 ·simp only[eV,bE,not_or]
  exact⟨h.n7,nb _ u⟩
 rcases eV.1 hx with hx|hx
 ·exact k x (h.ob x hx) (by rw[n _ (nb _ (v x hx))];exact v x hx)
 rw[bE]at hx;subst hx;exact k x N (by rw[bO];exact bY _)
theorem nX.sub {cx:Cx} {r v:Nat} {abs:List Nat} {st:RS} {vo:AV} {H H':Hp} (h:nX cx r v abs st vo H) (c: ∀b o,H b=Option.some o→H' b=Option.some o):nX cx r v abs st vo H':=
 {h with r:=c _ _ h.r,v:=c _ _ h.v,a:=fun i b l d e=>c _ _ (h.a i b l d e),o:=P1 h.o c}
end Go.Al
namespace Go.Proofs.YtaecpjgmcffliaaGreatDoor
open Go.Al Go.Proofs.Tryz
def zz (a:Ar):List Int:=List.replicate a.size.toNat 0
def Qq (p:Pg) (inp:dE) (fu:Int):Cx:=⟨p.funs.map (Gz (kI p)),inp,(if fu<0 then 0 else fu).toNat⟩
structure LL (p:Pg):Prop where
 ok:p.ok
 n:(mG p).Nodup
 nl: ∀f∈p.funs,(jH f).Nodup
 v:p.vars.length≤10000
 a:p.arrs.length≤10000
 f:p.funs.length≤10000
 f1:1≤p.funs.length
 fs: ∀f∈p.funs,f.params.length≤10000∧f.locs.length≤1100000∧lQ f.body≤1000000
 sz: ∀a∈p.arrs,0≤a.size∧a.size≤4096
end Go.Proofs.YtaecpjgmcffliaaGreatDoor
