/- Qe -/
import Derived.Test.YtaecpjgmcffliaaGreatDoorJf
import Derived.Test.YtaecpjgmcffliaaGreatDoorWb
import Derived.Test.YtaecpjgmcffliaaGreatDoorSy2
import Derived.Test.YtaecpjgmcffliaaGreatDoorSc1
import Derived.Test.YtaecpjgmcffliaaGreatDoorAl3
set_option linter.unusedSimpArgs false
set_option linter.unusedVariables false
set_option maxRecDepth 10000
set_option maxHeartbeats 1000000
namespace Go.Al
def Lm (T:List Int):List Int:=[1145390419,4 *(T.length:Int),4224]
def zK (T:List Int) (k:Nat):Zs×List Int:=jN ((T++[0]).take k) 0 RY
def KF (T:List Int) (k:Nat):List Int:=Lm T++(zK T k).2
theorem oG.go {a:dC→Bool×Int} (H:oG a) {c n o x s m v d i q:Int} {arr:List Int} {rd:Nat} {b:dC} {e:Nat} (h: ¬n<q):PV a (jK c n o x s m v d i q arr rd b e) (.mk 7 0 0 [] [.mk 6 14 0 [] [.mk 2 0 0 [110] [], .mk 2 0 0 [113] []]]) 1:= .neg (x:=0) (.op H.vn H.vq (by rw[Br,aM h])) rfl
theorem oG.stop {a:dC→Bool×Int} (H:oG a) {c n o x s m v d i q:Int} {arr:List Int} {rd:Nat} {b:dC} {e:Nat} (h:n<q):PV a (jK c n o x s m v d i q arr rd b e) (.mk 7 0 0 [] [.mk 6 14 0 [] [.mk 2 0 0 [110] [], .mk 2 0 0 [113] []]]) 0:= .neg (x:=1) (.op H.vn H.vq (by rw[Br,bP h])) rfl
theorem PK (T:List Int):zK T T.length=jN T 0 RY:=by unfold zK;rw[List.take_left'];rfl
theorem KE {T:List Int} {k:Nat} {c:Int} (h:(T++[0])[k]?=some c):zK T (k+1)=(Ag (k:Int) c (zK T k).1,(zK T k).2++vA (k:Int) c (zK T k).1):=by
 obtain⟨a,rfl⟩:=bC.1 h;unfold zK;rw[bS a,P4,dJ,Nat.min_eq_left (by omega),eC]
def KI (T:List Int) (aR:List Int) (tk0:Nat) (k:Nat) (st:RS):Prop:= ∃c o x v pend out arr tk,pend.length≤4∧PW arr pend∧arr.length=4096∧(∀j,j<4000→arr[j]?=aR[j]?)∧out++uP pend=uP (KF T k)∧(k=T.length+1→out=uP (KF T T.length))∧tk≤tk0+1+6 *k∧(0≤(zK T k).1.m∧(zK T k).1.m<4294967296)∧
 st=jK c (T.length:Int) o x (zK T k).1.s (zK T k).1.m v (zK T k).1.d (4004 -(pend.length:Int)) (k:Int) arr T.length out tk
theorem FK {cx:Cx} {B:dC→Bool×Int} (H:oG B) {T f:List Int} (l:AT f T) (V:T.length≤2500) (I: ∀x∈T,0≤x∧x<4294967296) {st:RS} {tk0:Nat} (R:st.ticks=tk0) (W:tk0+6 *T.length+20<cx.fuel) (G:KI T f tk0 0 st.tick):
  Wp cx B [.mk 5 [] [.mk 7 0 0 [] [.mk 6 14 0 [] [.mk 2 0 0 [110] [], .mk 2 0 0 [113] []]]] (.mk 5 [] [.mk 6 14 0 [] [.mk 2 0 0 [105] [], .mk 1 0 4004 [] []]] Ew []::zA) []] st (fun s=>s.out=uP (Wm T)∧s.ticks≤tk0+6 *T.length+20):=by
 refine Wp.loop (KI T f tk0) (T.length+1) (by omega) G ?_ ?_
 rotate_left
 ·rintro _ ⟨c,o,x,v,y,u,arr,i,_,_,_,_,_,F,S,_,rfl⟩
  refine⟨?_, .nil ⟨?_,by show i≤_;omega⟩⟩
  ·exact H.stop (by omega)
  show u=_;rw[F rfl];unfold KF;rw[PK];rfl
 rintro k _ X ⟨c,o,x,v,y,u,arr,i,N,O,L,g,A,_,Y,b,rfl⟩;refine⟨1,H.go (by omega),by decide, ?_⟩
 have M:u.length≤60000:=by
  have:=congrArg List.length A;rw[aB,Fa (KF T k)]at this;unfold KF at this;have e:(zK T k).2.length=4 *((T++[0]).take k).length:=by unfold zK;exact vB _ _ _
  rw[aB,e,dJ,aB]at this;simp only[Lm,aJ,aS]at this;omega
 refine S8 H N O M (by omega) fun Q=>?_;rw[A];have U: ∀j,j<4000→arr[j]?=f[j]?:=g;obtain⟨d,hd⟩: ∃d,(T++[0])[k]?=some d:=⟨_,aD (by rw[aB,bW];omega)⟩
 have K:0≤d∧d<4294967296:=by
  have b:=aW hd;rw[eR,bA]at b;rcases b with h|h
  ·exact I d h
  omega
 have J:arr[(k:Int).toNat]?=some d:=by
  rw[dU,g k (by omega)];rcases wE k T.length with e|e
  ·rw[l.eq k e,←hd,fB e]
  obtain rfl:k=T.length:=by omega
  rw[l.z _ (bE _) (by omega),←hd];simp
 have p:=KE hd;rw[←dO zA];refine Zz H L K J (fun j a=>by rw[g _ (by omega)];exact l.tab j a) b fun P C t=> .nil ⟨by show i+1+y.length<cx.fuel;omega,d,o,Q,P,vA (k:Int) d (zK T k).1,uP (KF T k),C,i+1+y.length+1,by simp [vA], ?_,t.len,fun j a=>by rw[t.low j a,g j a], ?_,fun e=>?_,by omega, ?_, ?_⟩
 ·intro j a
  have n:(vA (k:Int) d (zK T k).1).length=4:=rfl;rw[n];exact t.w j a
 ·unfold KF
  rw[p,←bQ,Sr (Lm T++(zK T k).2)]
 ·rw[show k=T.length by omega]
 ·rw[p]
  exact SI b
 have n:(vA (k:Int) d (zK T k).1).length=4:=rfl;have D:gX ((k:Int)+1)=((k+1:Nat):Int):=by rw[eN (by omega)];omega
 have E:(4004 -((4:Nat):Int))=4000:=rfl;rw[n,E,D,p];rfl
theorem KT {cx:Cx} {g:dC→Bool×Int} (H:oG g) {t:dC} (A:cx.inp=t) (y:t.length≤2500) (F:7 *t.length+50<cx.fuel) {T:List Int} {E:Int} (f:xB t ([],0)=some (T,E)) (z: ∀x∈T,0≤x∧x<4294967296):
  Wp cx g oV (jK 0 0 0 0 0 0 0 0 0 0 (List.replicate 4096 0) 0 [] 0) (fun s=>s.out=uP (Wm T)∧s.ticks≤7 *t.length+50):=by
 have c:T.length=t.length:=by have:=J9 f;simpa using this
 unfold oV;refine FL H ?_;refine FI H A y (by omega) f fun o x arr b=>?_;have a:=b.len;unfold TV;simp only[cN,dE];refine H.st .num .num (by rw[a];decide) ?_;refine H.st .num (.op H.vn .num (RN _ _)) (by rw[eE,a];decide) ?_;refine H.st .num .num (by rw[eE,eE,a];decide) ?_;refine H.wi .num ?_;refine H.ws .num ?_;rw[eN (by omega)];have p:(4001:Int).toNat=4001:=rfl;have u:(4002:Int).toNat=4002:=rfl;have v:(4003:Int).toNat=4003:=rfl;rw[p,u,v]
 have B: ∀j,j<4000→(((arr.set 4001 1145390419).set 4002 ((t.length:Int) *4)).set 4003 4224)[j]?=arr[j]?:=fun j d=>by
  rw[pH (by rw[eE,eE];omega),aM (by omega),pH (by rw[eE];omega),aM (by omega),pH (by omega),aM (by omega)]
 have C:PW (((arr.set 4001 1145390419).set 4002 ((t.length:Int) *4)).set 4003 4224) (Lm T):=by
  intro j d;simp only[Lm,aJ,aS]at d⊢;rw[pH (by rw[eE,eE];omega),pH (by rw[eE];omega),pH (by omega)];have :j=0∨j=1∨j=2:=by omega
  rcases this with rfl|rfl|rfl
  ·rfl
  ·rw[c,Int.mul_comm];rfl
  rfl
 refine(FK H b (by omega) z (tk0:=t.length+1) rfl (by omega) ⟨256,o,x,0,Lm T,[],((arr.set 4001 1145390419).set 4002 ((t.length:Int) *4)).set 4003 4224,t.length+1+1,by simp [Lm],C,by rw[eE,eE,eE,a],B, ?_,fun e=>by omega,by omega,by rw[show zK T 0=(RY,[])by unfold zK;rw[fX];rfl];decide, ?_⟩).imp fun s D=>⟨D.1,by omega⟩
 ·have e:KF T 0=Lm T:=by unfold KF zK;rw[fX];show Lm T++[]=_;rw[dO]
  rw[e,dE]
 have i:zK T 0=(RY,[]):=by unfold zK;rw[fX];rfl
 have k:(Lm T).length=3:=rfl;have l:(4004 -((3:Nat):Int))=4001:=rfl;have n:((0:Nat):Int)=0:=rfl;rw[i,k,l,n,c];rfl
def hI (o a b c:Int):Int:=o *16777216+a *1048576+b *65536+c
def Ei (d X e:Int):List Int:=[hI 16 2 0 (d+1),hI 16 1 0 d,X,hI 17 1 0 (e+1)]
abbrev zl (d m:Int):Zs:=⟨d,1880096768,m⟩
theorem NM {q c d s m A:Int} (u:uH c=A) (v:0≤A∧A<4294967296) (l: ¬gX (c- 48)<10) (j: ¬c=32) (t: ¬gX (c- 97)<26) (n: ¬c=58) (o: ¬c=64) (p: ¬c=87) (k: ¬c=35) (hd:0≤d∧d≤200) (g:2≤A/536870912+d):
  vA q c ⟨d,s,m⟩=Ei d (A % 536870912) (d+A/536870912 - 2)∧Ag q c ⟨d,s,m⟩=⟨d+A/536870912 - 2,s,m⟩:=by
 have a:gX (270532609+d)=hI 16 2 0 (d+1):=by rw[eN (by omega)];simp only[hI];omega
 have b:gX (269484032+d)=hI 16 1 0 d:=by rw[eN (by omega)];simp only[hI];omega
 have e:gX (d+A/536870912)=d+A/536870912:=eN (by omega);have f:gX (d+A/536870912 - 2)=d+A/536870912 - 2:=eN (by omega);have i:gX (286261249+(d+A/536870912 - 2))=hI 17 1 0 (d+A/536870912 - 2+1):=by rw[eN (by omega)];simp only[hI];omega
 simp only[vA,Ag,Z3,zd,P3,Z4,Kt,Yu,G2,Yv,Y8,Ku,Tu,aM l,aM j,aM t,aM n,aM o,aM p,aM k,u,a,b,e,f,i,Ei];trivial
theorem G3 {q c d s m:Int} (u:48≤c∧c≤57) (hd:0≤d∧d≤200) (v:0≤m∧m *10+(c- 48)<4294967296):
  vA q c ⟨d,s,m⟩=Ei d (hI 3 1 2 0) d∧Ag q c ⟨d,s,m⟩=⟨d,s,m *10+(c- 48)⟩:=by
 have t:uH c=1125253120:=by
  have :c=48∨c=49∨c=50∨c=51∨c=52∨c=53∨c=54∨c=55∨c=56∨c=57:=by omega
  rcases this with rfl|rfl|rfl|rfl|rfl|rfl|rfl|rfl|rfl|rfl<;>decide
 have k:gX (c- 48)<10:=by rw[eN (by omega)];omega
 have p: ¬gX (c- 97)<26:=by show ¬IntKind.wrap .u32 _<26;rw[IntKind.wrap_u32];omega
 have i: ¬c=32:=by omega
 have l: ¬c=58:=by omega
 have n: ¬c=64:=by omega
 have o: ¬c=87:=by omega
 have j: ¬c=35:=by omega
 have a:gX (gX (m *10)+gX (c- 48))=m *10+(c- 48):=by rw[eN (x:=m *10) (by omega),eN (x:=c- 48) (by omega),eN (by omega)]
 have b:gX (270532609+d)=hI 16 2 0 (d+1):=by rw[eN (by omega)];simp only[hI];omega
 have e:gX (269484032+d)=hI 16 1 0 d:=by rw[eN (by omega)];simp only[hI];omega
 have f:gX (gX (d+1125253120/536870912)- 2)=d:=by rw[eN (x:=d+1125253120/536870912) (by omega),eN (by omega)];omega
 have g:gX (286261249+d)=hI 17 1 0 (d+1):=by rw[eN (by omega)];simp only[hI];omega
 simp only[vA,Ag,Z3,zd,P3,Z4,Kt,Yu,G2,Yv,Y8,Ku,Tu,bP k,aM i,aM p,aM l,aM n,aM o,aM j,t,a,b,e,f,g,Ei];exact⟨rfl,trivial⟩
theorem NK {q d s m:Int} (hd:0≤d∧d≤200) (n:0≤m∧m<4294967296):
  vA q 32 ⟨d,s,m⟩=[hI 16 2 0 (d+1),hI 1 1 0 (m % 65536),hI 2 1 0 (m/65536),hI 17 1 0 (d+1+1)]∧Ag q 32 ⟨d,s,m⟩=⟨d+1,s,0⟩:=by
 have l:uH 32=1645215744:=by decide
 have j: ¬gX (32 - 48)<10:=by decide
 have k: ¬gX (32 - 97)<26:=by decide
 have a:gX (270532609+d)=hI 16 2 0 (d+1):=by rw[eN (by omega)];simp only[hI];omega
 have b:gX (17825792+m % 65536)=hI 1 1 0 (m % 65536):=by rw[eN (by omega)];simp only[hI];omega
 have c:gX (1645215744+m/65536)=1645215744+m/65536:=eN (by omega);have e:(1645215744+m/65536)/536870912=3:=by omega
 have g:(1645215744+m/65536) % 536870912=hI 2 1 0 (m/65536):=by simp only[hI];omega
 have i:gX (gX (d+3)- 2)=d+1:=by rw[eN (x:=d+3) (by omega),eN (by omega)];omega
 have f:gX (286261249+(d+1))=hI 17 1 0 (d+1+1):=by rw[eN (by omega)];simp only[hI];omega
 simp only[vA,Ag,Z3,zd,P3,Z4,Kt,Yu,G2,Yv,Y8,Ku,Tu,aM j,aM k,l,a,b,c,e,f,g,i,cT,aM (show ¬(32:Int)=87 by decide),aM (show ¬(32:Int)=58 by decide),aM (show ¬(32:Int)=64 by decide),aM (show ¬(32:Int)=35 by decide)];trivial
theorem NL {q c d s m S g:Int} (z:97≤c∧c≤122) (hd:0≤d∧d≤200) (C:s=S+g *536870912) (y:0≤S∧S<536870000) (A:0≤g∧g≤3) (B:2≤g+d):
  vA q c ⟨d,s,m⟩=Ei d (S+c) (d+g- 2)∧Ag q c ⟨d,s,m⟩=zl (d+g- 2) m:=by
 have o: ¬gX (c- 48)<10:=by rw[eN (by omega)];omega
 have v:gX (c- 97)<26:=by rw[eN (by omega)];omega
 have l: ¬c=32:=by omega
 have p: ¬c=58:=by omega
 have t: ¬c=64:=by omega
 have u: ¬c=87:=by omega
 have n: ¬c=35:=by omega
 have a:gX (s+c)=s+c:=eN (by omega);have b:gX (270532609+d)=hI 16 2 0 (d+1):=by rw[eN (by omega)];simp only[hI];omega
 have e:gX (269484032+d)=hI 16 1 0 d:=by rw[eN (by omega)];simp only[hI];omega
 have f:(s+c)/536870912=g:=by omega
 have k:(s+c) % 536870912=S+c:=by omega
 have i:gX (gX (d+g)- 2)=d+g- 2:=by rw[eN (x:=d+g) (by omega),eN (by omega)]
 have j:gX (286261249+(d+g- 2))=hI 17 1 0 (d+g- 2+1):=by rw[eN (by omega)];simp only[hI];omega
 simp only[vA,Ag,Z3,zd,P3,Z4,Kt,Yu,G2,Yv,Y8,Ku,Tu,aM o,aM l,bP v,aM p,aM t,aM u,aM n,a,b,e,f,i,j,k,Ei];trivial
theorem SL {q c d m:Int} (a:97≤c∧c≤122) (hd:0≤d∧d≤200):vA q c (zl d m)=Ei d (hI 16 1 0 c) (d+1)∧Ag q c (zl d m)=zl (d+1) m:=by
 have:=NL (q:=q) (m:=m) (S:=269484032) (g:=3) (s:=1880096768) a hd (by decide) (by decide) (by decide) (by omega);rw[show d+3 - 2=d+1 by omega,show 269484032+c=hI 16 1 0 c by simp only[hI];omega]at this;exact this
theorem SJ {q c d m:Int} (a:97≤c∧c≤122) (hd:1≤d∧d≤200):vA q c ⟨d,824180736,m⟩=Ei d (hI 17 2 0 c) (d- 1)∧Ag q c ⟨d,824180736,m⟩=zl (d- 1) m:=by
 have:=NL (q:=q) (m:=m) (S:=287309824) (g:=1) (s:=824180736) a (d:=d) (by omega) (by decide) (by decide) (by decide) (by omega);rw[show d+1 - 2=d- 1 by omega,show 287309824+c=hI 17 2 0 c by simp only[hI];omega]at this;exact this
theorem Z8 {q d m:Int} (hd:0≤d∧d≤200):vA q 58 (zl d m)=Ei d (hI 3 1 2 0) d∧Ag q 58 (zl d m)=⟨d,824180736,m⟩:=by
 have i:uH 58=1125253120:=by decide
 have f: ¬gX (58 - 48)<10:=by decide
 have g: ¬gX (58 - 97)<26:=by decide
 have a:gX (270532609+d)=hI 16 2 0 (d+1):=by rw[eN (by omega)];simp only[hI];omega
 have b:gX (269484032+d)=hI 16 1 0 d:=by rw[eN (by omega)];simp only[hI];omega
 have c:gX (gX (d+1125253120/536870912)- 2)=d:=by rw[eN (x:=d+1125253120/536870912) (by omega),eN (by omega)];omega
 have e:gX (286261249+d)=hI 17 1 0 (d+1):=by rw[eN (by omega)];simp only[hI];omega
 simp only[vA,Ag,Z3,zd,P3,Z4,Kt,Yu,G2,Yv,Y8,Ku,Tu,aM f,aM g,i,a,b,c,e,Ei,cT,aM (show ¬(58:Int)=87 by decide),aM (show ¬(58:Int)=32 by decide),aM (show ¬(58:Int)=64 by decide),aM (show ¬(58:Int)=35 by decide)];exact⟨rfl,trivial⟩
theorem SN {q d m:Int} (hd:0≤d∧d≤200):vA q 64 (zl d m)=[hI 16 2 0 (d+1),hI 25 2 0 4096,hI 16 1 2 128,hI 17 1 0 (d+1)]∧Ag q 64 (zl d m)=zl d m:=by
 have g:uH 64=1343357056:=by decide
 have e: ¬gX (64 - 48)<10:=by decide
 have f: ¬gX (64 - 97)<26:=by decide
 have a:gX (270532609+d)=hI 16 2 0 (d+1):=by rw[eN (by omega)];simp only[hI];omega
 have b:gX (gX (d+1343357056/536870912)- 2)=d:=by rw[eN (x:=d+1343357056/536870912) (by omega),eN (by omega)];omega
 have c:gX (286261249+d)=hI 17 1 0 (d+1):=by rw[eN (by omega)];simp only[hI];omega
 simp only[zl,vA,Ag,Z3,zd,P3,Kt,Yu,G2,Yv,Y8,Ku,Tu,aM e,aM f,g,a,b,c,cT,aM (show ¬(64:Int)=87 by decide),aM (show ¬(64:Int)=32 by decide),aM (show ¬(64:Int)=58 by decide),aM (show ¬(64:Int)=35 by decide)];exact⟨rfl,trivial⟩
theorem Z7 {q d m:Int} (hd:2≤d∧d≤200):vA q 35 (zl d m)=[hI 16 2 0 (d+1),hI 16 1 0 d,hI 25 1 0 4096,hI 17 2 1 128]∧Ag q 35 (zl d m)=zl (d- 2) m:=by
 have g:uH 35=420483072:=by decide
 have e: ¬gX (35 - 48)<10:=by decide
 have f: ¬gX (35 - 97)<26:=by decide
 have a:gX (270532609+d)=hI 16 2 0 (d+1):=by rw[eN (by omega)];simp only[hI];omega
 have b:gX (269484032+d)=hI 16 1 0 d:=by rw[eN (by omega)];simp only[hI];omega
 have c:gX (gX (d+420483072/536870912)- 2)=d- 2:=by rw[eN (x:=d+420483072/536870912) (by omega),eN (by omega)];omega
 simp only[zl,vA,Ag,Z3,zd,P3,Z4,Kt,Yu,G2,Yv,Y8,Ku,Tu,aM e,aM f,g,a,b,c,cT,aM (show ¬(35:Int)=87 by decide),aM (show ¬(35:Int)=32 by decide),aM (show ¬(35:Int)=58 by decide),aM (show ¬(35:Int)=64 by decide)];exact⟨rfl,trivial⟩
theorem Z6 {q d m:Int} (l:0≤q∧q≤3000) (hd:0≤d∧d≤200):vA q 87 (zl d m)=Ei d (hI 1 1 0 (4 *q)) (d+1)∧Ag q 87 (zl d m)=zl (d+1) m:=by
 have a: ¬gX (87 - 48)<10:=by decide
 have b: ¬gX (87 - 97)<26:=by decide
 have e:gX (270532609+d)=hI 16 2 0 (d+1):=by rw[eN (by omega)];simp only[hI];omega
 have f:gX (269484032+d)=hI 16 1 0 d:=by rw[eN (by omega)];simp only[hI];omega
 have c:gX (1628438528+gX (q *4))=1628438528+q *4:=by rw[eN (x:=q *4) (by omega),eN (by omega)]
 have g:(1628438528+q *4)/536870912=3:=by omega
 have k:(1628438528+q *4) % 536870912=hI 1 1 0 (4 *q):=by simp only[hI];omega
 have i:gX (gX (d+3)- 2)=d+1:=by rw[eN (x:=d+3) (by omega),eN (by omega)];omega
 have j:gX (286261249+(d+1))=hI 17 1 0 (d+1+1):=by rw[eN (by omega)];simp only[hI];omega
 simp only[*,zl,vA,Ag,Z3,zd,P3,Z4,Kt,Yv,Y8,Ku,Tu,aM a,aM b,Ei,cT,aM (show ¬(87:Int)=58 by decide),aM (show ¬(87:Int)=32 by decide),aM (show ¬(87:Int)=64 by decide),aM (show ¬(87:Int)=35 by decide)];trivial
theorem P5 {q d m n:Int} (e:0≤n∧n≤3000) (hd:1≤d∧d≤200):vA q (857735172+4 *n) (zl d m)=Ei d (hI 19 2 0 (4 *n+4)) (d- 1)∧Ag q (857735172+4 *n) (zl d m)=zl (d- 1) m:=by
 have c:uH (857735172+4 *n)=857735172+4 *n:=by
  have a:En (857735172+4 *n)=857735172+4 *n:=aM (by omega);have b:zY (857735172+4 *n)=857735172+4 *n:=by unfold zY;rw[a,aM (by omega)]
  unfold uH;rw[b,aM (by omega)]
 have:=NM (q:=q) (d:=d) (s:=1880096768) (m:=m) c (by omega) (by rw[eN (by omega)];omega) (by omega) (by rw[eN (by omega)];omega) (by omega) (by omega) (by omega) (by omega) (by omega) (by omega);rw[show(857735172+4 *n)/536870912=1 by omega,show d+1 - 2=d- 1 by omega,show(857735172+4 *n) % 536870912=hI 19 2 0 (4 *n+4)by simp only[hI];omega]at this;exact this
theorem uK {c A X g:Int} (f:uH c=A) (i:A=X+g *536870912) (k:(0≤X∧X<536870912)∧(0≤g∧g≤3)) (b: ¬gX (c- 48)<10) (e: ¬gX (c- 97)<26) (a: ¬c=32∧ ¬c=58∧ ¬c=64∧ ¬c=87∧ ¬c=35) {q d m:Int} (hd:0≤d∧d≤200) (j:2≤g+d):vA q c (zl d m)=Ei d X (d+g- 2)∧Ag q c (zl d m)=zl (d+g- 2) m:=by
 have:=NM (q:=q) (d:=d) (s:=1880096768) (m:=m) f (by omega) b a.1 e a.2.1 a.2.2.1 a.2.2.2.1 a.2.2.2.2 hd (by omega);rw[show A/536870912=g by omega,show A % 536870912=X by omega]at this;exact this
theorem SK {o:Int} (h:4≤o∧o≤15): ∃c:UInt8,Go.Proofs.YtaecpjgmcffliaaGreatDoor.opS[(o- 4).toNat]?=some c∧ ∀{q d m:Int},1≤d∧d≤200→vA q (c.toNat:Int) (zl d m)=Ei d (hI o 1 1 2) (d- 1)∧Ag q (c.toNat:Int) (zl d m)=zl (d- 1) m:=by
 have :o=4∨o=5∨o=6∨o=7∨o=8∨o=9∨o=10∨o=11∨o=12∨o=13∨o=14∨o=15:=by omega
 have i: ∀{o:Int} {c:UInt8},uH (c.toNat:Int)=hI o 1 1 2+1 *536870912→0≤hI o 1 1 2∧hI o 1 1 2<536870912→ ¬gX ((c.toNat:Int)- 48)<10→ ¬gX ((c.toNat:Int)- 97)<26→(¬(c.toNat:Int)=32∧ ¬(c.toNat:Int)=58∧ ¬(c.toNat:Int)=64∧ ¬(c.toNat:Int)=87∧ ¬(c.toNat:Int)=35)→ ∀{q d m:Int},1≤d∧d≤200→vA q (c.toNat:Int) (zl d m)=Ei d (hI o 1 1 2) (d- 1)∧Ag q (c.toNat:Int) (zl d m)=zl (d- 1) m:=by
  intro o c a b e f g q d m hd;have:=uK (q:=q) (m:=m) (d:=d) a rfl ⟨b,by decide⟩ e f g (by omega) (by omega);rw[show d+1 - 2=d- 1 by omega]at this;exact this
 rcases this with rfl|rfl|rfl|rfl|rfl|rfl|rfl|rfl|rfl|rfl|rfl|rfl<;>exact⟨_,rfl,i (by decide) (by decide) (by decide) (by decide) (by decide)⟩
mutual
def cE (rs:dC→Bool×Int):Ex→List AV
 | .mk k o n s l=>[.int .i64 k, .int .i64 o, .int .u32 n, .bool (rs s).1, .int .i64 (rs s).2, .isl 6 (XA rs l)]
def XA (rs:dC→Bool×Int):List Ex→List (List AV)
 |[]=>[]
 |e::l=>cE rs e::XA rs l
end
mutual
def cS (rs:dC→Bool×Int):Sm→List AV
 | .mk k s l t u=>[.int .i64 k, .bool (rs s).1, .int .i64 (rs s).2, .isl 6 (l.map (cE rs)), .isl 6 (WT rs t), .isl 6 (WT rs u)]
def WT (rs:dC→Bool×Int):List Sm→List (List AV)
 |[]=>[]
 |e::l=>cS rs e::WT rs l
end
def Cf.row (f:Cf):List AV:=[.int .i64 f.words, .isl 6 (f.body.map (cS f.res))]
def iH (n:Int):List AV:=[.int .u32 n]
def sB (c:UInt8):List AV:=[.int .u8 c.toNat]
def fN:List Nat→List (List Int)→List (List AV)
 |b::bs,l::ls=>[.osl 1 b l.length]::fN bs ls
 |_,_=>[]
theorem wA: ∀(a:List Nat) (c:List (List Int)) (i:Nat) b l,a[i]?=some b→c[i]?=some l→(fN a c)[i]?=some [.osl 1 b l.length]
 |[],_,i,b,l,h,_=>by simp at h
 |b0::a,[],i,b,l,_,h=>by simp at h
 |b0::a,l0::c,0,b,l,h,h'=>by
  simp only[gB,Option.some.injEq]at h h';subst h;subst h';simp [fN]
 |b0::a,l0::c,i+1,b,l,h,h'=>by
  simp only[gP]at h h';simp only[fN,gP];exact wA a c i b l h h'
theorem vZ: ∀(a:List Nat) (c:List (List Int)) (i:Nat) (f:List Int→List Int),(∀l,(f l).length=l.length)→fN a (c.modify i f)=fN a c
 |[],c,i,f,_=>by simp [fN]
 |b::a,[],i,f,_=>by simp [fN]
 |b::a,l::c,0,f,h=>by simp [fN,h]
 |b::a,l::c,i+1,f,h=>by simp [fN,vZ a c i f h]
theorem Dy: ∀(c:List Nat) (a:List (List Int)),c.length=a.length→(fN c a).length=a.length
 |[],[],_=>rfl
 |b::c,l::a,h=>by simp [fN,Dy c a (by simpa using h)]
 |[],_::_,h=>by simp at h
 |_::_,[],h=>by simp at h
structure nJ (cx:Cx) (br bv:Nat) (abs:List Nat) (st:RS) (vo:AV) (H:Hp):Prop where
 r:H br=some (.rows 8 [[.isl 2 (cx.funs.map Cf.row), .osl 1 bv st.vars.length, .isl 1 (fN abs st.arrs), .str cx.inp, .int .i64 st.read,vo, .int .i64 st.ticks, .int .i64 cx.fuel]])
 v:H bv=some (.rows 1 (st.vars.map iH))
 al:abs.length=st.arrs.length
 a: ∀(i:Nat) b l,abs[i]?=some b→st.arrs[i]?=some l→H b=some (.rows 1 (l.map iH))
 nd:abs.Nodup
 va:bv∉abs
 o:dW 1 vo (st.out.map sB) H
 ov:off vo bv
 oa: ∀b∈abs,off vo b
 uv: ∀x∈st.vars,eB x
 ua: ∀l∈st.arrs,l.length≤4096∧ ∀x∈l,eB x
 ub:st.out.length≤65536
 rd:st.read≤cx.inp.length
 tk:st.ticks≤cx.fuel
def jU (br bv:Nat) (abs:List Nat) (vo vo':AV) (H H':Hp):Prop:= ∀b o,H b=some o→b≠br→b≠bv→b∉abs→off vo b→H' b=some o∧off vo' b
def qV (br bv:Nat) (abs:List Nat) (vo vo':AV) (bo:Nat) (H H':Hp):Prop:= ∀b o,H b=some o→b≠br→b≠bv→b∉abs→off vo b→b≠bo→H' b=some o∧off vo' b
structure Ac (bv:Nat) (abs:List Nat) (vo:AV) (b:Nat) (rows:List (List AV)) (H:Hp):Prop where
 h:H b=some (.rows 1 rows)
 nv:b≠bv
 na:b∉abs
 nf:off vo b
theorem jU.refl (br bv:Nat) (abs:List Nat) (vo:AV) (H:Hp):jU br bv abs vo vo H H:=fun _ _ h _ _ _ a=>⟨h,a⟩
theorem jU.trans {br bv:Nat} {abs:List Nat} {vo e f:AV} {H H1 H2:Hp} (h:jU br bv abs vo e H H1) (j:jU br bv abs e f H1 H2):jU br bv abs vo f H H2:=fun b o l a c d k=>by
 obtain⟨g,i⟩:=h b o l a c d k;exact j b o g a c d i
theorem jU.s {br bv:Nat} {abs:List Nat} {vo a:AV} {H H1:Hp} (h:jU br bv abs vo a H H1) (c:Nat):qV br bv abs vo a c H H1:=fun b o i d e f g _=>h b o i d e f g
theorem qV.trans {br bv a:Nat} {abs:List Nat} {vo g i:AV} {H H1 H2:Hp} (h:qV br bv abs vo g a H H1) (l:qV br bv abs g i a H1 H2):qV br bv abs vo i a H H2:=fun b o p c d e n f=>by
 obtain⟨j,k⟩:=h b o p c d e n f;exact l b o j c d e k f
theorem jU.updN {br bv:Nat} {abs:List Nat} {vo d:AV} {H H1:Hp} (h:jU br bv abs vo d H H1) {b:Nat} (n:H b=none) (o:Option gY):jU br bv abs vo d H (Go.Al.upd H1 b o):=fun c p a i j k l=>by
 obtain⟨f,g⟩:=h c p a i j k l;have :c≠b:=fun e=>by rw[e,n]at a;cases a
 exact⟨by rw[cR _ _ this];exact f,g⟩
theorem qV.new {br bv a:Nat} {abs:List Nat} {vo d:AV} {H H1:Hp} {o:Option gY} (k:H a=none) (h:qV br bv abs vo d a (Go.Al.upd H a o) H1):jU br bv abs vo d H H1:=fun b l c f g i j=>by
 have :b≠a:=fun e=>by rw[e,k]at c;cases c
 exact h b l (by rw[cR _ _ this];exact c) f g i j this
theorem jU.new {br bv a:Nat} {abs:List Nat} {vo b:AV} {H H1:Hp} {o:Option gY} (c:H a=none) (h:jU br bv abs vo b (Go.Al.upd H a o) H1):jU br bv abs vo b H H1:=qV.new c (h.s a)
section
variable {cx : Cx} {br bv : Nat} {abs : List Nat} {st : RS} {vo : AV} {H : Hp}
theorem nJ.nbr (h:nJ cx br bv abs st vo H) {b:Nat} {l:List (List AV)} (a:H b=some (.rows 1 l)):b≠br:=fun e=>by rw[e,h.r]at a;cases a
theorem Ac.keep {b:Nat} {rows:List (List AV)} (h:Ac bv abs vo b rows H) (f:nJ cx br bv abs st vo H) {a:AV} {H':Hp} (e:jU br bv abs vo a H H'):Ac bv abs a b rows H':=by
 obtain⟨c,d⟩:=e b _ h.h (f.nbr h.h) h.nv h.na h.nf;exact⟨c,h.nv,h.na,d⟩
theorem nJ.abs_some (h:nJ cx br bv abs st vo H) {b:Nat} (d:b∈abs):H b≠none:=by
 obtain⟨i,c⟩:=gF d;have e:i<st.arrs.length:=by have:=(bC.1 c).1;rw[←h.al];exact this
 rw[h.a i b _ c (aD e)];exact bY _
theorem nJ.new (h:nJ cx br bv abs st vo H) {b:Nat} (c:H b=none) (o:Option gY):nJ cx br bv abs st vo (upd H b o):=by
 have j:br≠b:=fun e=>by have:=h.r;rw[e,c]at this;cases this
 have k:bv≠b:=fun e=>by have:=h.v;rw[e,c]at this;cases this
 refine {h with r:=by rw[cR _ _ j];exact h.r,v:=by rw[cR _ _ k];exact h.v,a:=fun i d l f g=>?_,o:=h.o.upd c o};have n:d≠b:=fun e=>h.abs_some (aW f) (by rw[e,c]);rw[cR _ _ n];exact h.a i d l f g
theorem nJ.fresh (h:nJ cx br bv abs st vo H) {b:Nat} (a:H b=none) (rows:List (List AV)):Ac bv abs vo b rows (upd H b (some (.rows 1 rows))):=
 ⟨bG _ _ _,(fun e=>by have:=h.v;rw[←e,a]at this;cases this),(fun e=>h.abs_some e a),h.o.new a⟩
theorem Ac.new {b a:Nat} {rows:List (List AV)} (h:Ac bv abs vo b rows H) (c:H a=none) (o:Option gY):Ac bv abs vo b rows (upd H a o):=
 ⟨by rw[cR _ _ (fun e=>by have:=h.h;rw[e,c]at this;cases this)];exact h.h,h.nv,h.na,h.nf⟩
theorem nJ.own (h:nJ cx br bv abs st vo H) {b:Nat} {rows:List (List AV)} (c:Ac bv abs vo b rows H) (o:Option gY):nJ cx br bv abs st vo (upd H b o):=by
 have j:br≠b:=fun e=>h.nbr c.h e.symm;have k:bv≠b:=fun e=>c.nv e.symm;refine {h with r:=by rw[cR _ _ j];exact h.r,v:=by rw[cR _ _ k];exact h.v,a:=fun i d l f g=>?_,o:=h.o.off c.nf o};have n:d≠b:=fun e=>c.na (e▸aW f);rw[cR _ _ n];exact h.a i d l f g
theorem Ac.set {b:Nat} {rows a:List (List AV)} (h:Ac bv abs vo b rows H):Ac bv abs vo b a (upd H b (some (.rows 1 a))):=⟨bG _ _ _,h.nv,h.na,h.nf⟩
theorem qV.set {c:AV} {b:Nat} {H':Hp} (h:qV br bv abs vo c b H H') (o:Option gY):qV br bv abs vo c b H (upd H' b o):=fun d n l g i j k a=>by
 obtain⟨e,f⟩:=h d n l g i j k a;exact⟨by rw[cR _ _ a];exact e,f⟩
theorem nJ.same {H':Hp} (h:nJ cx br bv abs st vo H) (a: ∀b,H' b=H b):nJ cx br bv abs st vo H':=by
 have :H'=H:=funext a;rw[this];exact h
theorem nJ.turn (h:nJ cx br bv abs st vo H) {st':RS} (f:st'.vars=st.vars) (b:st'.arrs=st.arrs) (e:st'.out=st.out) (n:st'.read≤cx.inp.length) (p:st'.ticks≤cx.fuel):
  nJ cx br bv abs st' vo (upd H br (some (.rows 8 [[.isl 2 (cx.funs.map Cf.row), .osl 1 bv st'.vars.length, .isl 1 (fN abs st'.arrs), .str cx.inp, .int .i64 st'.read,vo, .int .i64 st'.ticks, .int .i64 cx.fuel]]))):=by
 have t:bv≠br:=h.nbr h.v;have k:off vo br:=h.o.offsz h.r (by decide);refine⟨bG _ _ _,by rw[cR _ _ t,f];exact h.v,by rw[b];exact h.al,fun i g l j c=>?_,h.nd,h.va,by rw[e];exact h.o.off k _,h.ov,h.oa,by rw[f];exact h.uv,by rw[b];exact h.ua,by rw[e];exact h.ub,n,p⟩;rw[b]at c;have d:=h.a i g l j c;rw[cR _ _ (h.nbr d)];exact d
theorem jU.run (o:Option gY):jU br bv abs vo vo H (upd H br o):=fun d e c a _ _ b=>⟨by rw[cR _ _ a];exact c,b⟩
theorem jU.vars (o:Option gY):jU br bv abs vo vo H (upd H bv o):=fun d e c _ a _ b=>⟨by rw[cR _ _ a];exact c,b⟩
theorem jU.arr {b:Nat} (d:b∈abs) (o:Option gY):jU br bv abs vo vo H (upd H b o):=fun g i f _ _ a c=>⟨by rw[cR _ _ (fun e=>a (by rw[e];exact d))];exact f,c⟩
theorem qN (l:List Int) (i:Nat) (v:Int):(l.map iH).set i [.int .u32 v]=(l.set i v).map iH:=by rw[List.map_set];rfl
theorem nJ.setV (h:nJ cx br bv abs st vo H) (i:Nat) (v:Int) (g:eB v):nJ cx br bv abs {st with vars:=st.vars.set i v} vo (upd H bv (some (.rows 1 ((st.vars.map iH).set i [.int .u32 v])))):=by
 have j:br≠bv:=fun e=>h.nbr h.v e.symm;refine⟨?_,by rw[bG,qN],h.al,fun i d l c f=>?_,h.nd,h.va,h.o.off h.ov _,h.ov,h.oa,fun x b=>?_,h.ua,h.ub,h.rd,h.tk⟩
 ·rw[cR _ _ j,eE];exact h.r
 ·rw[cR _ _ (fun e=>h.va (by rw[←e];exact aW c))];exact h.a i d l c f
 rcases oU b with b|rfl
 ·exact h.uv x b
 exact g
theorem nJ.setA (h:nJ cx br bv abs st vo H) {i:Nat} {b:Nat} {l:List Int} (g:abs[i]?=some b) (z:st.arrs[i]?=some l) (j:Nat) (v:Int) (D:eB v):nJ cx br bv abs {st with arrs:=st.arrs.modify i fun l=>l.set j v} vo (upd H b (some (.rows 1 ((l.map iH).set j [.int .u32 v])))):=by
 have A:=aW g;have E:br≠b:=fun e=>h.nbr (h.a i b l g z) e.symm;have F:bv≠b:=fun e=>h.va (e▸A);refine⟨?_,by rw[cR _ _ F];exact h.v,by simp only[List.length_modify];exact h.al,fun d y n p c=>?_,h.nd,h.va,h.o.off (h.oa b A) _,h.ov,h.oa,h.uv,fun n B=>?_,h.ub,h.rd,h.tk⟩
 ·rw[cR _ _ E]
  simp only;rw[vZ abs st.arrs i _ (fun l=>by simp)];exact h.r
 ·simp only[XN]at c
  by_cases t:i=d
  ·subst t
   rw[g]at p;cases p;rw[z]at c;have c:l.set j v=n:=by simpa using c
   subst c;rw[bG,qN]
  have c:st.arrs[d]?=some n:=by simpa [aM t]using c
  have :y≠b:=fun e=>by
   subst e;exact t ((List.getElem?_inj (bC.1 g).1 h.nd).1 (g.trans p.symm))
  rw[cR _ _ this];exact h.a d y n p c
 obtain⟨d,k⟩:=gF B;rw[XN]at k
 obtain⟨f,C,rfl⟩: ∃f,st.arrs[d]?=some f∧(if i=d then f.set j v else f)=n:=by
  cases hq:st.arrs[d]? with
  |none=>rw[hq]at k;simp at k
  |some f=>rw[hq]at k;exact⟨f,rfl,by simpa using k⟩
 have:=h.ua f (aW C);split
 ·refine⟨by simpa using this.1,fun x u=>?_⟩
  rcases oU u with u|rfl
  ·exact this.2 x u
  exact D
 exact this
end
structure NH (cx:Cx):Prop where
 inp:cx.inp.length≤2000000
 fuel:cx.fuel<9223372036854775808
 words: ∀f∈cx.funs,f.words≤3000000
 body: ∀f∈cx.funs,xH f.body
theorem PT {a b:Int} (d:eB a) (e:eB b) (j: ¬b=0):eB (a.tmod b):=by
 obtain⟨c,f⟩:=d;obtain⟨g,i⟩:=e;have:=Int.tmod_nonneg b c;have:=Int.tmod_lt_of_pos a (show 0<b by omega);exact⟨by omega,by omega⟩
theorem PM (n:Int):eB (IntKind.wrap .u32 n):=by
 have h:IntKind.wrap .u32 n=n % 4294967296:=by simp [IntKind.wrap,IntKind.signed,IntKind.bits]
 rw[h];exact⟨Int.emod_nonneg _ (by decide),Int.emod_lt_of_pos _ (by decide)⟩
theorem TM {a:Int} (d:eB a) (k:Nat):eB (a.fdiv (2^k)):=by
 obtain⟨b,f⟩:=d;have e:(0:Int)<2^k:=Int.pow_pos (by decide);rw[oI _ (by omega)];have c:=Int.ediv_nonneg b (Int.le_of_lt e);have g:=Int.ediv_le_self (2^k) b;exact⟨c,by omega⟩
theorem SO {c:Prop} [Decidable c] {x y:Int} (h:c→eB x) (b: ¬c→eB y):eB (if c then x else y):=by
 by_cases a:c
 ·rw[bP a];exact h a
 rw[aM a];exact b a
theorem JJ (op:Int) {a b:Int} (c:eB a) (d:eB b):eB (eX op a b).1:=by
 unfold eX;generalize min b.toNat 32=k;have z:eB 0:=by simp [eB]
 have o:eB 1:=by simp [eB]
 simp only[apply_ite Prod.fst]
 repeat' refine SO (fun _=>?_) fun _=>?_
 all_goals first|exact PM _|exact z|exact o|exact PT c d ‹_› |exact TM c _
structure Mc where
 pc:Int
 r1:Int
 r2:Int
 mem:List Int
 rd:Nat
 out:dC
 st:Nat
def Mc.r (s:Mc) (a:Int):Int:=if a=1 then s.r1 else if a=2 then s.r2 else 0
def Mc.nx (s:Mc):Mc:={s with pc:=s.pc+1,st:=s.st+1}
def Mc.to (s:Mc) (p:Int):Mc:={s with pc:=p,st:=s.st+1}
def Mc.stp (s:Mc):Mc:={s with st:=s.st+1}
def Mc.set (s:Mc) (a x:Int):Option (Int×Mc):=if a=1 then some (0,{s.nx with r1:=x})else if a=2 then some (0,{s.nx with r2:=x})else none
def UF (inp:dC) (o a b c:Int) (s:Mc):Option (Int×Mc):=
 if o=1 then s.set a c
 else if o=2 then s.set a (s.r a % 65536+c *65536)
 else if o=3 then s.set a (s.r b)
 else if 4≤o∧o≤15 then(if(eX o (s.r b) (s.r c)).2=0 then s.set a (eX o (s.r b) (s.r c)).1 else some (2,s.stp))
 else if o=16 then(match s.mem[(gX (s.r b+c)).toNat]? with
  |some x=>s.set a x
  |none=>none)
 else if o=17 then(if(gX (s.r b+c)).toNat<s.mem.length then some (0,{s.nx with mem:=s.mem.set (gX (s.r b+c)).toNat (s.r a)})else none)
 else if o=19 then some (0,if s.r a=0 then s.to c else s.nx)
 else if o=22 then some (0,s.to (s.r a))
 else if o=23 then(match inp[s.rd]? with
  |some x=>({s with rd:=s.rd+1}:Mc).set a (x.toNat:Int)
  |none=>s.set a 256)
 else if o=24 then(if 65536≤s.out.length then some (4,s.stp)else some (0,{s.nx with out:=s.out++[UInt8.ofNat (IntKind.wrap .u8 (s.r a)).toNat]}))
 else if o=25 then(if s.r a<c then some (0,s.nx)else some (3,s.stp))
 else if o=26 then some (1,s.stp)
 else none
def Db (W:List Int) (inp:dC) (s:Mc):Option (Int×Mc):=
 if s.pc<0 then none else match W[s.pc.toNat]? with
  |some w=>UF inp (w/16777216) (w/1048576 % 16) (w/65536 % 16) (w % 65536) s
  |none=>none
inductive Go (W:List Int) (inp:dC):Nat→Mc→Mc→Prop where
 |nil (s:Mc):Go W inp 0 s s
 |step {k:Nat} {s s1 s2:Mc} (h:Db W inp s=some (0,s1)) (g:Go W inp k s1 s2):Go W inp (k+1) s s2
theorem Go.app {W:List Int} {inp:dC} {k j:Nat} {s s1 s2:Mc} (h:Go W inp k s s1) (g:Go W inp j s1 s2):Go W inp (k+j) s s2:=by
 induction h with
 |nil s=>rw[eC];exact g
 |step h _ ih=>rw[Nat.add_right_comm];exact .step h (ih g)
theorem Go.one {W:List Int} {inp:dC} {s s1:Mc} (h:Db W inp s=some (0,s1)):Go W inp 1 s s1:= .step h (.nil _)
def Fin (W:List Int) (inp:dC) (k:Nat) (s:Mc) (e:Int) (s':Mc):Prop:= ∃s1,Go W inp k s s1∧Db W inp s1=some (e,s')
theorem Fin.after {W:List Int} {inp:dC} {k j:Nat} {s s1 s':Mc} {e:Int} (h:Go W inp k s s1) (g:Fin W inp j s1 e s'):Fin W inp (k+j) s e s':=by
 obtain⟨c,a,b⟩:=g;exact⟨c,h.app a,b⟩
theorem Au {W:List Int} {inp:dC} {s:Mc} {o a b c:Int} {p:Nat} (e:s.pc=(p:Int)) (f:W[p]?=some (hI o a b c)) (h:(0≤o∧o≤200)∧(0≤a∧a≤15)∧(0≤b∧b≤15)∧(0≤c∧c≤65535)):Db W inp s=UF inp o a b c s:=by
 have g:hI o a b c/16777216=o:=by simp only[hI];omega
 have i:hI o a b c/1048576 % 16=a:=by simp only[hI];omega
 have j:hI o a b c/65536 % 16=b:=by simp only[hI];omega
 have k:hI o a b c % 65536=c:=by simp only[hI];omega
 unfold Db;rw[aM (by omega),e,dU,f];simp only[*]
def P2 (W:List Int) (k:Nat) (l:List Int):Prop:= ∀i,i<l.length→W[k+i]?=l[i]?
theorem P2.app {W:List Int} {k:Nat} {a b:List Int} (h:P2 W k (a++b)):P2 W k a∧P2 W (k+a.length) b:=by
 refine⟨fun i c=>?_,fun i c=>?_⟩
 ·rw[h i (by rw[aB];omega),fB c]
 rw[mD,h (a.length+i) (by rw[aB];omega),gQ (by omega),gO]
def Mc.m (s:Mc) (j:Nat):Int:=(s.mem[j]?).getD 0
theorem Mc.m_get {s:Mc} {j:Nat} (h:j<s.mem.length):s.mem[j]?=some (s.m j):=by unfold Mc.m;rw[aD h];rfl
section
variable {W : List Int} {inp : dC} {s : Mc} {q d : Nat}
theorem OZ {p x a:Nat} (c:s.pc=(p:Int)) (f:W[p]?=some (hI 16 a 0 x)) (b:a=1∨a=2) (i:x<300) (g:s.mem.length=4224):Db W inp s=some (0,if a=1 then {s.nx with r1:=s.m x}else {s.nx with r2:=s.m x}):=by
 rw[Au c f (by omega)];have e:gX (s.r 0+(x:Int))=(x:Int):=by show gX (0+(x:Int))=_;rw[Int.zero_add,eN (by omega)]
 simp only[UF,e,dU,Mc.m_get (s:=s) (show x<s.mem.length by omega)];rcases b with rfl|rfl<;>rfl
theorem UR {p x a:Nat} (b:s.pc=(p:Int)) (c:W[p]?=some (hI 17 a 0 x)) (f:a≤2) (i:x<300) (g:s.mem.length=4224):Db W inp s=some (0,{s.nx with mem:=s.mem.set x (s.r a)}):=by
 rw[Au b c (by omega)];have e:gX (s.r 0+(x:Int))=(x:Int):=by show gX (0+(x:Int))=_;rw[Int.zero_add,eN (by omega)]
 simp [UF,e,show x<s.mem.length by omega]
theorem LX (j:s.pc=((4 *q:Nat):Int)) (g:W[4 *q]?=some (hI 16 2 0 ((d+1:Nat):Int))) (i:W[4 *q+1]?=some (hI 16 1 0 (d:Int))) (hd:d≤200) (f:s.mem.length=4224):
  Go W inp 2 s {s with pc:=((4 *q+2:Nat):Int),r1:=s.m d,r2:=s.m (d+1),st:=s.st+2}:=by
 have c:=OZ (inp:=inp) (a:=2) j g (.inr rfl) (by omega) f;rw[aM (by decide)]at c;have b:=OZ (W:=W) (inp:=inp) (s:={s.nx with r2:=s.m (d+1)}) (p:=4 *q+1) (a:=1) (x:=d) (by show s.pc+1=_;omega) i (.inl rfl) (by omega) f;rw[bP rfl]at b
 have e:({({s.nx with r2:=s.m (d+1)}:Mc).nx with r1:=({s.nx with r2:=s.m (d+1)}:Mc).m d}:Mc)={s with pc:=((4 *q+2:Nat):Int),r1:=s.m d,r2:=s.m (d+1),st:=s.st+2}:=by
  show Mc.mk (s.pc+1+1) _ _ _ _ _ _=_;rw[show s.pc+1+1=((4 *q+2:Nat):Int)by omega];rfl
 rw[e]at b;exact .step c (.one b)
theorem LW {e:Nat} (f:s.pc=((4 *q+3:Nat):Int)) (b:W[4 *q+3]?=some (hI 17 1 0 ((e+1:Nat):Int))) (i:e≤200) (c:s.mem.length=4224):
  Go W inp 1 s {s with pc:=((4 *(q+1):Nat):Int),mem:=s.mem.set (e+1) s.r1,st:=s.st+1}:=by
 have g:=UR (inp:=inp) (a:=1) (x:=e+1) f b (by decide) (by omega) c
 have e:({s.nx with mem:=s.mem.set (e+1) (s.r ((1:Nat):Int))}:Mc)={s with pc:=((4 *(q+1):Nat):Int),mem:=s.mem.set (e+1) s.r1,st:=s.st+1}:=by
  show Mc.mk (s.pc+1) _ _ _ _ _ _=_;rw[show s.pc+1=((4 *(q+1):Nat):Int)by omega];rfl
 rw[e]at g;exact .one g
def Mc.hd (s:Mc) (q d:Nat):Mc:={s with pc:=((4 *q+2:Nat):Int),r1:=s.m d,r2:=s.m (d+1),st:=s.st+2}
theorem V7 {k e:Nat} {X:Int} (h:P2 W k (Ei (d:Int) X (e:Int))):W[k]?=some (hI 16 2 0 ((d+1:Nat):Int))∧W[k+1]?=some (hI 16 1 0 (d:Int))∧W[k+2]?=some X∧W[k+3]?=some (hI 17 1 0 ((e+1:Nat):Int)):=
 ⟨h 0 (by simp [Ei]),h 1 (by simp [Ei]),h 2 (by simp [Ei]),h 3 (by simp [Ei])⟩
theorem QO {o a b c:Int} {e:Nat} {s2:Mc} (B:P2 W (4 *q) (Ei (d:Int) (hI o a b c) (e:Int))) (A:(0≤o∧o≤200)∧(0≤a∧a≤15)∧(0≤b∧b≤15)∧(0≤c∧c≤65535)) (y:s.pc=((4 *q:Nat):Int)) (hd:d≤200) (u:e≤200) (v:s.mem.length=4224)
  (t:UF inp o a b c (s.hd q d)=some (0,s2)) (z:s2.pc=((4 *q+3:Nat):Int)) (x:s2.mem.length=4224):
  Go W inp 4 s {s2 with pc:=((4 *(q+1):Nat):Int),mem:=s2.mem.set (e+1) s2.r1,st:=s2.st+1}:=by
 obtain⟨j,k,l,n⟩:=V7 B;have f:=LX (inp:=inp) y j k hd v;have g:Db W inp (s.hd q d)=some (0,s2):=by rw[Au (p:=4 *q+2) rfl l A];exact t
 have i:=LW (inp:=inp) z n u x;exact(f.app (.one g)).app i
end
theorem EW {l:List Int} {j:Nat} {v:Int} (h:l[j]?=some v):l.set j v=l:=by
 refine kT fun i=>?_;rw[gR];split
 ·rename_i e;subst e
  have:=(bC.1 h).1;rw[bP this,h]
 rfl
theorem nJ.put {cx:Cx} {br bv:Nat} {abs:List Nat} {st:RS} {vo v':AV} {H H':Hp} (h:nJ cx br bv abs st vo H) {c:UInt8} (hl:st.out.length<65536) (ho:dW 1 v' (st.out.map sB++[sB c]) H')
  (hk: ∀b o,H b=some o→vo≠ .osl 1 b (st.out.map sB).length→H' b=some o) (hg: ∀b,off vo b→H b≠none→off v' b):
  nJ cx br bv abs {st with out:=st.out++[c]} v' (upd H' br (some (.rows 8 [[.isl 2 (cx.funs.map Cf.row), .osl 1 bv st.vars.length, .isl 1 (fN abs st.arrs), .str cx.inp, .int .i64 st.read,v', .int .i64 st.ticks, .int .i64 cx.fuel]])))∧
  jU br bv abs vo v' H (upd H' br (some (.rows 8 [[.isl 2 (cx.funs.map Cf.row), .osl 1 bv st.vars.length, .isl 1 (fN abs st.arrs), .str cx.inp, .int .i64 st.read,v', .int .i64 st.ticks, .int .i64 cx.fuel]]))):=by
 have n2:bv≠br:=h.nbr h.v;have hob:off vo br:=h.o.offsz h.r (by decide);have hob':off v' br:=hg br hob (by rw[h.r];exact bY _);refine⟨⟨bG _ _ _, ?_,h.al,fun i b' l h1 h2=>?_,h.nd,h.va, ?_,hg bv h.ov (by rw[h.v];exact bY _),fun b hb=>hg b (h.oa b hb) (h.abs_some hb),h.uv,h.ua, ?_,h.rd,h.tk⟩,fun b o hb h1 h2 h3 h4=>⟨?_,hg b h4 (by rw[hb];exact bY _)⟩⟩
 ·rw[cR _ _ n2];exact hk _ _ h.v (h.ov _ _)
 ·have hb:=h.a i b' l h1 h2
  rw[cR _ _ (h.nbr hb)];exact hk _ _ hb (h.oa b' (aW h1) _ _)
 ·rw[cK]
  exact ho.off hob' _
 ·simp only[aB,bW];omega
 rw[cR _ _ h1];exact hk _ _ hb (h4 _ _)
theorem sO {l:List Int} {i:Nat} {x:Int} (h:l[i]?=some x):(l.map iH)[i]?=some [.int .u32 x]:=by rw[dH,h];rfl
theorem Ac.other {bv:Nat} {abs:List Nat} {vo:AV} {H:Hp} {b bo:Nat} {rows:List (List AV)} (h:Ac bv abs vo b rows H) (hne:b≠bo) (o:Option gY):Ac bv abs vo b rows (upd H bo o):=⟨by rw[cR _ _ hne];exact h.h,h.nv,h.na,h.nf⟩
structure Pl where
 name:dC
 loc:Bool
 num:Int
def vM:List Pl→dC→Option (Bool×Int)
 |[],_=>none
 |t::l,s=>if s=t.name then some (t.loc,t.num)else vM l s
def QB (b:Bool):Nat→List dC→List Pl
 |_,[]=>[]
 |i,s::l=>⟨s,b,i⟩::QB b (i+1) l
def oD (p:Pg):List Pl:=QB false 0 p.vars++QB false 0 (p.arrs.map Ar.name)++QB false 0 (p.funs.map Fu.name)
def HL (f:Fu):List Pl:=QB true 0 (f.params++f.locs)
def FD (G I:List Pl) (s:dC):Bool×Int:=match vM I s with |some r=>r|none=>(vM G s).getD (false,0)
def Sl (G:List Pl) (f:Fu):Cf:=⟨f.params.length+f.locs.length,FD G (HL f),f.body⟩
theorem Ii: ∀l:List UInt8,pC (l.map sB)=some l
 |[]=>rfl
 |c::l=>by
  have h:UInt8.ofNat ((c.toNat:Int).toNat)=c:=by simp
  simp only[cP,sB,pC,Ik,h,cA];rw[Ii l];rfl
theorem nJ.seal {cx:Cx} {r v:Nat} {abs:List Nat} {st:RS} {vo:AV} {H:Hp} {E:jV} {N:Nat} {Q:fK} {c:Code} {fr:Fr} (f:nJ cx r v abs st vo H)
  (h: ∀g d,(∀j,sX (fr j)=true→g j=fr j)→d r=some (.rows 8 [[.isl 2 (cx.funs.map Cf.row), .osl 1 v st.vars.length, .isl 1 (fN abs st.arrs), .str cx.inp, .int .i64 st.read, .isl 1 (st.out.map sB), .int .i64 st.ticks, .int .i64 cx.fuel]])→
   (∀b s l,b≠r→off vo b→(∀r∈l, ∀x∈r,sX x=true)→H b=some (.rows s l)→d b=some (.rows s l))→lW E N c Q g d):lW E N c Q fr H:=by
 have u:H r=some (.rows 8 [[AV.isl 2 (cx.funs.map Cf.row), .osl 1 v st.vars.length, .isl 1 (fN abs st.arrs), .str cx.inp, .int .i64 st.read]++vo::[.int .i64 st.ticks, .int .i64 cx.fuel]]):=f.r;refine gW f.o u (fun x a=>?_) (fun x a=>?_) (f.o.offsz f.r (by decide)) fun g d y z A=>h g d (fun j B=>y j (bU B)) z fun b s l i k p t=>A b s l i k (fun r C x a=>bU (p r C x a)) t
 ·simp only[bK,bM,dB]at a
  rcases a with rfl|rfl|rfl|rfl|rfl
  ·exact bU rfl
  ·intro s b n e
   cases e;exact f.ov
  ·exact bU rfl
  ·exact bU rfl
  exact bU rfl
 simp only[bK,bM,dB]at a;rcases a with rfl|rfl<;>exact bU rfl
def Hn (T:List Int):List Int:=(jN T 0 RY).2
def Qw (o:Int):dC:=if o=1∨o=2∨o=19∨o=25 then [97,99]else if o=3 then [97,98]else if o=16∨o=17 then [97,98,99]else if o=22∨o=23∨o=24 then [97]else if o=26 then []else [97,98,114]
def TZ (o:Int):Prop:=o=1∨o=2∨o=3∨o=4∨o=5∨o=6∨o=7∨o=8∨o=9∨o=10∨o=11∨o=12∨o=13∨o=14∨o=15∨o=16∨o=17∨o=19∨o=22∨o=23∨o=24∨o=25∨o=26
def Rn (s:dC) (c:UInt8):Bool:=s.any fun x=>decide (x=c)
def P8 (t:Bool) (n m:Int):Bool:=if t then decide (0≤n)&&decide (n≤m)else decide (n=0)
def QN (o a b c:Int):Bool:=P8 (Rn (Qw o) 97) a 15&&P8 (Rn (Qw o) 98) b 15&&P8 (Rn (Qw o) 99||Rn (Qw o) 114) c (if Rn (Qw o) 114 then 15 else 65535)
def V4 (w:Int):List AV:=[.int .i64 (w/16777216), .int .i64 (w/1048576 % 16), .int .i64 (w/65536 % 16), .int .i64 (w % 65536)]
def Za (w:Int):Prop:=TZ (w/16777216)∧QN (w/16777216) (w/1048576 % 16) (w/65536 % 16) (w % 65536)=true
end Go.Al
namespace Go.Proofs.YtaecpjgmcffliaaGreatDoor
open Go.Al Go.Proofs.Tryz
def jG (t:dC):List Int:=t.map fun c=>(c.toNat:Int)
theorem lQ (a b:dC):jG (a++b)=jG a++jG b:=cK
theorem kG (a:dC):(jG a).length=a.length:=aE _
theorem gH (c:Int) (q:Nat) (z:Zs):jN [c] q z=(Ag (q:Int) c z,vA (q:Int) c z):=by simp [jN]
theorem MW {W:List Int} {q:Nat} {A B:List Int} {z:Zs} (h:P2 W (4 *q) (jN (A++B) q z).2):P2 W (4 *q) (jN A q z).2∧P2 W (4 *(q+A.length)) (jN B (q+A.length) (jN A q z).1).2:=by
 rw[yP]at h;obtain⟨b,a⟩:=h.app;rw[vB]at a;exact⟨b,by rw[Nat.mul_add];exact a⟩
theorem iC (A B:List Int) (q:Nat) (z:Zs):(jN (A++B) q z).1=(jN B (q+A.length) (jN A q z).1).1:=by rw[yP]
structure Nm (V:UInt8→Prop) (A:Prop) (rs:dC→Bool×Int):Prop where
 lt: ∀c,V c→97≤c.toNat∧c.toNat≤122
 inj: ∀c c',V c→V c'→(rs [c]).2=(rs [c']).2→c=c'
 gl: ∀c,V c→(rs [c]).1=false∧0≤(rs [c]).2
 ar:A→(rs [116]).2=0
structure MR (V:UInt8→Prop) (A:Prop) (rs:dC→Bool×Int) (st:RS) (s:Mc):Prop where
 len:s.mem.length=4224
 rd:s.rd=st.read
 out:s.out=st.out
 vars: ∀c,V c→ ∃v,st.vars[((rs [c]).2).toNat]?=some v∧eB v∧s.mem[c.toNat]?=some v
 arr:A→ ∃L,st.arrs[0]?=some L∧L.length=4096∧ ∀j,j<4096→ ∃v,L[j]?=some v∧eB v∧s.mem[128+j]?=some v
section
variable {V : UInt8 → Prop} {A : Prop} {rs : dC → Bool × Int} {W : List Int} {cx : Cx}
theorem MR.keep {st:RS} {s s':Mc} (n:Nm V A rs) (h:MR V A rs st s) (p:s'.mem.length=4224) (f: ∀j,97≤j→s'.mem[j]?=s.mem[j]?) (u:s'.rd=s.rd) (t:s'.out=s.out):MR V A rs st s':=by
 refine⟨p,u.trans h.rd,t.trans h.out,fun c e=>?_,fun l=>?_⟩
 ·obtain⟨v,a,b,d⟩:=h.vars c e
  exact⟨v,a,b,by rw[f _ (n.lt c e).1];exact d⟩
 obtain⟨L,a,b,d⟩:=h.arr l;refine⟨L,a,b,fun j o=>?_⟩;obtain⟨v,g,i,k⟩:=d j o;exact⟨v,g,i,by rw[f _ (by omega)];exact k⟩
theorem HQ {inp:dC} {q d:Nat} {s:Mc} (e:P2 W (4 *q) (Ei (d:Int) (hI 3 1 2 0) (d:Int))) (c:s.pc=((4 *q:Nat):Int)) (hd:d≤200) (b:s.mem.length=4224): ∃a,Go W inp 4 s a∧a.pc=((4 *(q+1):Nat):Int)∧a.mem=s.mem∧a.rd=s.rd∧a.out=s.out:=by
 have g:=QO (inp:=inp) (s2:={(s.hd q d).nx with r1:=s.m (d+1)}) e (by decide) c hd hd b rfl (by show((4 *q+2:Nat):Int)+1=_;omega) b;refine⟨_,g,rfl, ?_,rfl,rfl⟩;show s.mem.set (d+1) (s.m (d+1))=s.mem;exact EW (Mc.m_get (by omega))
theorem IR (n:Nat): ∀(q d:Nat),d≤200→n<4294967296→(jN (jG (Lib.decDigits n)) q (zl d 0)).1=zl d (n:Int)∧
  ∀{inp:dC} {s:Mc},P2 W (4 *q) (jN (jG (Lib.decDigits n)) q (zl d 0)).2→s.pc=((4 *q:Nat):Int)→s.mem.length=4224→ ∃a,Go W inp (4 *(Lib.decDigits n).length) s a∧a.pc=((4 *(q+(Lib.decDigits n).length):Nat):Int)∧a.mem=s.mem∧a.rd=s.rd∧a.out=s.out:=by
 induction n using Nat.strongRecOn with
 |_ n ih=>
  intro q d hd E
  have one: ∀k:Nat,k<10→jG [UInt8.ofNat (48+k)]=[((48+k:Nat):Int)]:=fun k D=>by
   simp only[jG,cP,dD];rw[UInt8.toNat_ofNat',Nat.mod_eq_of_lt (by omega)]
  rw[Lib.decDigits];split
  ·rename_i h
   have z:=G3 (q:=(q:Int)) (c:=((48+n:Nat):Int)) (d:=(d:Int)) (s:=1880096768) (m:=0) (by omega) (by omega) (by omega);rw[one n h,gH];refine⟨by rw[z.2];show Zs.mk _ _ _=Zs.mk _ _ _;congr 1;omega,fun {inp s} f o e=>?_⟩;rw[z.1]at f;obtain⟨a,g,i,b,j,l⟩:=HQ (inp:=inp) f o hd e;exact⟨a,g,i,b,j,l⟩
  rename_i h;have u:n % 10<10:=rN _ (by decide);obtain⟨t,v⟩:=ih (n/10) (by omega) q d hd (by omega);have z:=G3 (q:=((q+(jG (Lib.decDigits (n/10))).length:Nat):Int)) (c:=((48+n % 10:Nat):Int)) (d:=(d:Int)) (s:=1880096768) (m:=((n/10:Nat):Int)) (by omega) (by omega) (by omega);rw[lQ,one _ u,iC,t,gH];refine⟨by rw[z.2];show Zs.mk _ _ _=Zs.mk _ _ _;congr 1;omega,fun {inp s} f o e=>?_⟩;obtain⟨C,p⟩:=MW f;rw[t,gH,z.1]at p;obtain⟨F,g,i,b,j,l⟩:=v (inp:=inp) C o e;rw[kG]at p;obtain⟨B,k1,x,k3,k4,y⟩:=HQ (inp:=inp) p i hd (by rw[b];exact e);refine⟨B, ?_, ?_,k3.trans b,k4.trans j,y.trans l⟩
  ·have:=g.app k1
   rw[aB,bW,Nat.mul_add];exact this
  rw[x,aB,bW,mD]
theorem pZ {i:Int} {e:Ex} (h:SX V A i e): ∀(q d:Nat),(d:Int)≤i→(jN (jG (gK e)) q (zl d 0)).1=zl ((d+1:Nat):Int) 0:=by
 induction h with
 |num i n hl h=>
  intro q d hd;have f:gK (.mk 1 0 n [] [])=Lib.decDigits n.toNat++[32]:=by simp [gK,hY,iD]
  have k:n.toNat<4294967296:=by have:=h.1;have:=h.2;omega
  obtain⟨p,_⟩:=IR (W:=[]) n.toNat q d (by omega) k;rw[f,lQ,iC,p];show(jN [32] _ _).1=_;rw[gH,(NK (by omega) (by omega)).2];rfl
 |var i c hl h hV=>
  intro q d hd;have f:gK (.mk 2 0 0 [c] [])=[c]:=by simp [gK,hY,iD]
  have j:97≤c.toNat∧c.toNat≤122:=by simp only[Ll,aU,bO]at h;exact h
  rw[f];show(jN [(c.toNat:Int)] _ _).1=_;rw[gH,(SL (by omega) (by omega)).2];rfl
 |idx i a hl hA ha ih=>
  intro q d hd;have f:gK (.mk 3 0 0 [116] [a])=gK a++[64]:=by rw[gK,sJ];simp [iD]
  rw[f,lQ,iC,ih q d (by omega)];show(jN [64] _ _).1=_;rw[gH,(SN (by omega)).2]
 |get i hl=>
  intro q d hd;have f:gK (.mk 5 0 0 [] [])=[63]:=by simp [gK,hY,iD]
  rw[f];show(jN [63] _ _).1=_;rw[gH,(uK (A:=1997537280) (X:=hI 23 1 0 0) (g:=3) (by decide) (by decide) (by decide) (by decide) (by decide) (by decide) (by omega) (by omega)).2,show((d:Int)+3 - 2)=((d+1:Nat):Int)by omega]
 |neg i a hl ha ih=>
  intro q d hd;have f:gK (.mk 7 0 0 [] [a])=gK a++[33]:=by rw[gK,sJ];simp [iD]
  rw[f,lQ,iC,ih q d (by omega)];show(jN [33] _ _).1=_;rw[gH,(uK (A:=1326579712) (X:=hI 15 1 2 0) (g:=2) (by decide) (by decide) (by decide) (by decide) (by decide) (by decide) (by omega) (by omega)).2,show(((d+1:Nat):Int)+2 - 2)=((d+1:Nat):Int)by omega]
 |op i o a b hl h ha hb iha ihb=>
  intro q d hd;obtain⟨c,j,l⟩:=SK h;have f:gK (.mk 6 o 0 [] [a,b])=gK a++(gK b++[c]):=by rw[gK,Zi];simp [iD,j]
  rw[f,lQ,lQ,iC,iha q d (by omega),iC,ihb _ (d+1) (by omega)];show(jN [(c.toNat:Int)] _ _).1=_;rw[gH,(l (by omega)).2,show(((d+1+1:Nat):Int)- 1)=((d+1:Nat):Int)by omega]
end
section
variable {V : UInt8 → Prop} {A : Prop} {rs : dC → Bool × Int} {W : List Int} {cx : Cx} {inp : dC}
end
section
mutual
def yN:Nat→Sm→List Int
 |b, .mk k s l t _=>
  if k=1 then jG (hY l)++([58]++jG s)
  else if k=2 then jG (hY l)++[35]
  else if k=3 then jG (hY l)++[46]
  else if k=4 then jG (hY l)++([857735172+4 *((b+(hY l).length+1+(iS t).length:Nat):Int)]++(uW (b+(hY l).length+1) t++[70]))
  else [87]++(jG (hY l)++([857735172+4 *((b+1+(hY l).length+1+(iS t).length:Nat):Int)]++(uW (b+1+(hY l).length+1) t++[69])))
def uW:Nat→List Sm→List Int
 |_,[]=>[]
 |b,s::l=>yN b s++uW (b+(nW s).length) l
end
def uO (c:UInt8):Prop:=c≠68∧c≠73∧c≠69∧c≠70
theorem pI: ∀(u:dC),(∀c∈u,uO c)→ ∀(T:List Int) (o:Int),xB u (T,o)=some (T++jG u,o)
 |[],_,T,o=>by simp [xB,jG]
 |c::u,h,T,o=>by
  obtain⟨a,b,d,f⟩:=h c (dQ)
  have e:K9 c (T,o)=some (T++[(c.toNat:Int)],o):=by
   unfold K9;rw[aM (by simp [a,b]),aM (by simp [d,f])]
  simp only[xB,e,cA];rw[pI u (fun x g=>h x (fA _ g))];simp [jG]
theorem IT (n:Nat): ∀c∈Lib.decDigits n,uO c∧48≤c.toNat∧c.toNat≤57:=by
 induction n using Nat.strongRecOn with
 |_ n ih=>
  have one: ∀k:Nat,k<10→uO (UInt8.ofNat (48+k))∧48≤(UInt8.ofNat (48+k)).toNat∧(UInt8.ofNat (48+k)).toNat≤57:=fun k b=>by
   have :k=0∨k=1∨k=2∨k=3∨k=4∨k=5∨k=6∨k=7∨k=8∨k=9:=by omega
   rcases this with rfl|rfl|rfl|rfl|rfl|rfl|rfl|rfl|rfl|rfl<;>exact⟨⟨by decide,by decide,by decide,by decide⟩,by decide,by decide⟩
  intro c a;rw[Lib.decDigits]at a;split at a
  ·rename_i h
   rw[bA]at a;subst a;exact one n h
  rw[eR,bA]at a;rcases a with a|rfl
  ·exact ih _ (by omega) c a
  exact one _ (rN _ (by decide))
section
variable {V : UInt8 → Prop} {A : Prop}
theorem wL {g:Int} {e:Ex} (h:SX V A g e): ∀c∈gK e,uO c:=by
 have i: ∀k:UInt8,uO k→ ∀c∈[k],uO c:=fun k p c f=>by rw[bA]at f;subst f;exact p
 have Md: ∀{a b:dC},(∀c∈a,uO c)→(∀c∈b,uO c)→ ∀c∈a++b,uO c:=fun j l c f=>by
  rcases eR.1 f with h|h
  ·exact j c h
  exact l c h
 induction h with
 |num g n hl h=>
  have d:gK (.mk 1 0 n [] [])=Lib.decDigits n.toNat++[32]:=by simp [gK,hY,iD]
  rw[d];exact Md (fun c f=>(IT _ c f).1) (i 32 ⟨by decide,by decide,by decide,by decide⟩)
 |var g c hl h hV=>
  have d:gK (.mk 2 0 0 [c] [])=[c]:=by simp [gK,hY,iD]
  have f:97≤c.toNat∧c.toNat≤122:=by simp only[Ll,aU,bO]at h;exact h
  rw[d];refine i c ⟨fun e=>?_,fun e=>?_,fun e=>?_,fun e=>?_⟩<;>(rw[e]at f;exact absurd f.1 (by decide))
 |idx g a hl hA j ih=>
  have d:gK (.mk 3 0 0 [116] [a])=gK a++[64]:=by rw[gK,sJ];simp [iD]
  rw[d];exact Md ih (i 64 ⟨by decide,by decide,by decide,by decide⟩)
 |get g hl=>
  have d:gK (.mk 5 0 0 [] [])=[63]:=by simp [gK,hY,iD]
  rw[d];exact i 63 ⟨by decide,by decide,by decide,by decide⟩
 |neg g a hl j ih=>
  have d:gK (.mk 7 0 0 [] [a])=gK a++[33]:=by rw[gK,sJ];simp [iD]
  rw[d];exact Md ih (i 33 ⟨by decide,by decide,by decide,by decide⟩)
 |op g o a b hl h j l iha ihb=>
  have u: ∃c:UInt8,opS[(o- 4).toNat]?=some c∧uO c:=by
   have :o=4∨o=5∨o=6∨o=7∨o=8∨o=9∨o=10∨o=11∨o=12∨o=13∨o=14∨o=15:=by omega
   rcases this with rfl|rfl|rfl|rfl|rfl|rfl|rfl|rfl|rfl|rfl|rfl|rfl<;>exact⟨_,rfl,by decide,by decide,by decide,by decide⟩
  obtain⟨c,f,t⟩:=u;have d:gK (.mk 6 o 0 [] [a,b])=gK a++(gK b++[c]):=by rw[gK,Zi];simp [iD,f]
  rw[d];exact Md iha (Md ihb (i c t))
theorem TE (c:UInt8) (e:Ex):nW (.mk 1 [c] [e] [] [])=gK e++[58,c]:=by simp [nW,sJ]
theorem TD (a e:Ex):nW (.mk 2 [116] [a,e] [] [])=gK a++(gK e++[35]):=by simp [nW,Zi]
theorem TC (e:Ex):nW (.mk 3 [] [e] [] [])=gK e++[46]:=by simp [nW,sJ]
theorem EC (e:Ex) (t:List Sm):nW (.mk 4 [] [e] t [])=gK e++([73]++(iS t++[70])):=by simp [nW,sJ]
theorem EB (e:Ex) (t:List Sm):nW (.mk 5 [] [e] t [])=[87]++(gK e++([68]++(iS t++[69]))):=by simp [nW,sJ]
theorem GR (b:Nat) (c:UInt8) (e:Ex):yN b (.mk 1 [c] [e] [] [])=jG (gK e)++([58]++[(c.toNat:Int)]):=by simp [yN,sJ,jG]
theorem GQ (b:Nat) (a e:Ex):yN b (.mk 2 [116] [a,e] [] [])=jG (gK a)++(jG (gK e)++[35]):=by simp [yN,Zi,jG]
theorem GP (b:Nat) (e:Ex):yN b (.mk 3 [] [e] [] [])=jG (gK e)++[46]:=by simp [yN,sJ]
theorem GO (b:Nat) (e:Ex) (t:List Sm):yN b (.mk 4 [] [e] t [])=jG (gK e)++([857735172+4 *((b+(gK e).length+1+(iS t).length:Nat):Int)]++(uW (b+(gK e).length+1) t++[70])):=by simp [yN,sJ]
theorem GN (b:Nat) (e:Ex) (t:List Sm):yN b (.mk 5 [] [e] t [])=[87]++(jG (gK e)++([857735172+4 *((b+1+(gK e).length+1+(iS t).length:Nat):Int)]++(uW (b+1+(gK e).length+1) t++[69]))):=by simp [yN,sJ]
theorem wQ: ∀{l:List Sm} {b:Nat},(∀s∈l, ∀b,(yN b s).length=(nW s).length)→(uW b l).length=(iS l).length
 |[],_,_=>rfl
 |s::l,b,h=>by
  rw[uW,iS,aB,aB,h s (dQ),wQ fun x a=>h x (fA _ a)]
theorem nB {d:Int} {m:Sm} (h:SS V A d m): ∀b,(yN b m).length=(nW m).length:=by
 induction h with
 |set d c e hl hc hV he=>intro b;rw[GR,TE];simp [kG]
 |store d a e hl hA ha he=>intro b;rw[GQ,TD];simp [kG]
 |put d e hl he=>intro b;rw[GP,TC];simp [kG]
 |cond d e t hl he ht ih=>intro b;rw[GO,EC];simp [kG,wQ ih]
 |loop d e t hl he ht ih=>intro b;rw[GN,EB];simp [kG,wQ ih]
theorem Vz {X Y:List Int} {o:Int} (c:UInt8) (a:c=69∨c=70):K9 c ((X++[o])++Y,(X.length:Int))=some (X++([857735172+4 *((X.length+1+Y.length:Nat):Int)]++(Y++[(c.toNat:Int)])),o):=by
 unfold K9;have b: ¬(c=68∨c=73):=by rcases a with rfl|rfl<;>decide
 rw[aM b,bP a,bP (by show(0:Int)≤(X.length:Int);omega)]
 have d:((X++[o])++Y)[(X.length:Int).toNat]?=some o:=by
  rw[dU,bQ,gQ (bE _)];simp
 simp only[dU];congr 2;rw[bQ,bQ,List.set_append_right _ _ (bE _)];simp [aB,Nat.add_comm];omega
theorem J8 (c:UInt8) (p:List Int×Int):xB [c] p=K9 c p:=by
 simp only[xB];cases K9 c p<;>rfl
theorem VL: ∀{l:List Sm},(∀m∈l, ∀T o,xB (nW m) (T,o)=some (T++yN T.length m,o)∧(yN T.length m).length=(nW m).length)→ ∀T o,xB (iS l) (T,o)=some (T++uW T.length l,o)
 |[],_,T,o=>by simp [iS,uW,xB]
 |m::l,h,T,o=>by
  obtain⟨a,b⟩:=h m (dQ) T o;rw[iS,lL,a,cA,VL (fun x c=>h x (fA _ c)),uW,aB,b,bQ]
theorem XJ {g:Int} {m:Sm} (h:SS V A g m): ∀T o,xB (nW m) (T,o)=some (T++yN T.length m,o):=by
 have y: ∀(k:UInt8),uO k→ ∀T o,xB [k] (T,o)=some (T++[(k.toNat:Int)],o):=fun k F T o=>pI [k] (fun c d=>by rw[bA]at d;subst d;exact F) T o;have z: ∀{t:List Sm} {g:Int},(∀s∈t,SS V A g s)→(∀s∈t, ∀T o,xB (nW s) (T,o)=some (T++yN T.length s,o))→ ∀s∈t, ∀T o,xB (nW s) (T,o)=some (T++yN T.length s,o)∧(yN T.length s).length=(nW s).length:=fun i n s j T o=>⟨n s j T o,nB (i s j) _⟩
 induction h with
 |set g c e hl d hV he=>
  intro T o;have f:97≤c.toNat∧c.toNat≤122:=by simp only[Ll,aU,bO]at d;exact d
  have G:uO c:=⟨fun e=>(by rw[e]at f;exact absurd f.1 (by decide)),fun e=>(by rw[e]at f;exact absurd f.1 (by decide)),fun e=>(by rw[e]at f;exact absurd f.1 (by decide)),fun e=>(by rw[e]at f;exact absurd f.1 (by decide))⟩
  rw[TE,GR,lL,pI _ (wL he),cA,pI [58,c] (fun x B=>by
   simp only[bK,bM,dB]at B;rcases B with rfl|rfl
   ·exact⟨by decide,by decide,by decide,by decide⟩
   exact G)]
  simp [jG]
 |store g a e hl hA ha he=>
  intro T o;rw[TD,GQ,lL,pI _ (wL ha),cA,lL,pI _ (wL he),cA,y 35 ⟨by decide,by decide,by decide,by decide⟩];simp
 |put g e hl he=>
  intro T o;rw[TC,GP,lL,pI _ (wL he),cA,y 46 ⟨by decide,by decide,by decide,by decide⟩];simp
 |cond g e t hl he i n=>
  intro T o;have v:=wQ (b:=T.length+(gK e).length+1) fun s j=>nB (i s j);have l:=VL (z i n) ((T++jG (gK e))++[o]) ((T++jG (gK e)).length:Int);have p:((T++jG (gK e))++[o]).length=T.length+(gK e).length+1:=by simp only[aB,kG,bW]
  have u:(T++jG (gK e)).length=T.length+(gK e).length:=by simp [kG]
  rw[p]at l;have d:=Vz (X:=T++jG (gK e)) (Y:=uW (T.length+(gK e).length+1) t) (o:=o) 70 (.inr rfl);have D:xB [73] (T++jG (gK e),o)=some ((T++jG (gK e))++[o],((T++jG (gK e)).length:Int)):=by simp [xB,K9]
  rw[EC,GO,lL,pI _ (wL he),cA,lL,D,cA,lL,l,cA,J8,d,u,v];simp [mD]
 |loop g e t hl he i n=>
  intro T o;have v:=wQ (b:=T.length+1+(gK e).length+1) fun s j=>nB (i s j);have l:=VL (z i n) (((T++[87])++jG (gK e))++[o]) (((T++[87])++jG (gK e)).length:Int);have p:(((T++[87])++jG (gK e))++[o]).length=T.length+1+(gK e).length+1:=by simp [kG];omega
  have u:((T++[87])++jG (gK e)).length=T.length+1+(gK e).length:=by simp [kG];omega
  rw[p]at l;have d:=Vz (X:=(T++[87])++jG (gK e)) (Y:=uW (T.length+1+(gK e).length+1) t) (o:=o) 69 (.inl rfl);have E:xB [87] (T,o)=some (T++[87],o):=y 87 ⟨by decide,by decide,by decide,by decide⟩ T o;have C:xB [68] ((T++[87])++jG (gK e),o)=some (((T++[87])++jG (gK e))++[o],(((T++[87])++jG (gK e)).length:Int)):=by simp [xB,K9]
  rw[EB,GN,lL,E,cA,lL,pI _ (wL he),cA,lL,C,cA,lL,l,cA,J8,d,u,v];simp [mD]
theorem LI {d:Int} {l:List Sm} (h: ∀m∈l,SS V A d m):xB (iS l++[36]) ([],0)=some (uW 0 l++[36],0):=by
 rw[lL,VL (fun m b T o=>⟨XJ (h m b) T o,nB (h m b) _⟩),cA];rw[pI [36] (fun c a=>by rw[bA]at a;subst a;exact⟨by decide,by decide,by decide,by decide⟩)];rfl
theorem Bi (u:dC): ∀x∈jG u,0≤x∧x<4294967296:=fun x a=>by
 obtain⟨c,_,rfl⟩:=kQ.1 a;have:=AH c;omega
theorem J7 {N:Nat} (a:N≤3000): ∀{l:List Sm} {b:Nat},(∀m∈l, ∀b,b+(nW m).length≤N→ ∀x∈yN b m,0≤x∧x<4294967296)→b+(iS l).length≤N→ ∀x∈uW b l,0≤x∧x<4294967296
 |[],_,_,_,x,hx=>by simp [uW]at hx
 |m::l,b,h,hb,x,hx=>by
  rw[iS,aB]at hb;rw[uW,eR]at hx;rcases hx with hx|hx
  ·exact h m (dQ) b (by omega) x hx
  exact J7 a (fun y c=>h y (fA _ c)) (by omega) x hx
theorem UG {N:Nat} (j:N≤3000) {g:Int} {m:Sm} (h:SS V A g m): ∀b,b+(nW m).length≤N→ ∀x∈yN b m,0≤x∧x<4294967296:=by
 have f: ∀k:Int,0≤k∧k<4294967296→ ∀x∈[k],0≤x∧x<4294967296:=fun k n x i=>by rw[bA]at i;subst i;exact n
 have Md: ∀{a b:List Int},(∀x∈a,0≤x∧x<4294967296)→(∀x∈b,0≤x∧x<4294967296)→ ∀x∈a++b,0≤x∧x<4294967296:=fun l d x i=>by
  rcases eR.1 i with h|h
  ·exact l x h
  exact d x h
 induction h with
 |set g c e hl hc hV he=>intro b d;rw[GR];have:=AH c;exact Md (Bi _) (Md (f _ (by decide)) (f _ (by omega)))
 |store g a e hl hA l he=>intro b d;rw[GQ];exact Md (Bi _) (Md (Bi _) (f _ (by decide)))
 |put g e hl he=>intro b d;rw[GP];exact Md (Bi _) (f _ (by decide))
 |cond g e t hl he ht ih=>
  intro b d;rw[EC]at d;simp only[aB,aJ,aS]at d;rw[GO];exact Md (Bi _) (Md (f _ (by omega)) (Md (J7 j ih (by omega)) (f _ (by decide))))
 |loop g e t hl he ht ih=>
  intro b d;rw[EB]at d;simp only[aB,aJ,aS]at d;rw[GN];exact Md (f _ (by decide)) (Md (Bi _) (Md (f _ (by omega)) (Md (J7 j ih (by omega)) (f _ (by decide)))))
end
end
section
variable {V : UInt8 → Prop} {A : Prop} {rs : dC → Bool × Int} {W : List Int} {cx : Cx} {inp : dC}
theorem RX {N:Nat}: ∀{l:List Sm} {q d:Nat},(∀m∈l, ∀q,q+(nW m).length≤N→(jN (yN q m) q (zl d 0)).1=zl (d:Int) 0∧(yN q m).length=(nW m).length)→q+(iS l).length≤N→(jN (uW q l) q (zl d 0)).1=zl (d:Int) 0
 |[],_,_,_,_=>rfl
 |m::l,q,d,h,hq=>by
  rw[iS,aB]at hq;obtain⟨a,b⟩:=h m (dQ) q (by omega);rw[uW,iC,a,b];exact RX (fun x c=>h x (fA _ c)) (by omega)
theorem RV {N:Nat} (k:N≤3000) {f:Int} {m:Sm} (h:SS V A f m): ∀(q d:Nat),(d:Int)+1≤f→q+(nW m).length≤N→(jN (yN q m) q (zl d 0)).1=zl (d:Int) 0:=by
 induction h with
 |set f c e hl hc hV he=>
  intro q d hd b;have l:97≤c.toNat∧c.toNat≤122:=by simp only[Ll,aU,bO]at hc;exact hc
  rw[GR,iC,pZ he q d (by omega),iC,gH 58,(Z8 (by omega)).2,gH,(SJ (by omega) (by omega)).2,show(((d+1:Nat):Int)- 1)=(d:Int)by omega]
 |store f a e hl hA ha he=>
  intro q d hd b;rw[GQ,iC,pZ ha q d (by omega),iC,pZ he _ (d+1) (by omega),gH,(Z7 (by omega)).2,show(((d+1+1:Nat):Int)- 2)=(d:Int)by omega]
 |put f e hl he=>
  intro q d hd b;rw[GP,iC,pZ he q d (by omega),gH,(uK (A:=941621248) (X:=hI 24 2 0 0) (g:=1) (by decide) (by decide) (by decide) (by decide) (by decide) (by decide) (by omega) (by omega)).2,show(((d+1:Nat):Int)+1 - 2)=(d:Int)by omega]
 |cond f e t hl he ht ih=>
  intro q d hd b;rw[EC]at b;simp only[aB,aJ,aS]at b;have j:=RX (N:=N) (q:=q+(gK e).length+1) (d:=d) (fun m i q b=>⟨ih m i q d (by omega) b,nB (ht m i) q⟩) (by omega);rw[GO,iC,pZ he q d (by omega),iC,gH,(P5 (by omega) (by omega)).2,show(((d+1:Nat):Int)- 1)=(d:Int)by omega,iC,kG];rw[show q+(gK e).length+[857735172+4 *((q+(gK e).length+1+(iS t).length:Nat):Int)].length=q+(gK e).length+1 from rfl,j,gH];rw[(uK (A:=1125253120) (X:=hI 3 1 2 0) (g:=2) (by decide) (by decide) (by decide) (by decide) (by decide) (by decide) (by omega) (by omega)).2,show((d:Int)+2 - 2)=(d:Int)by omega]
 |loop f e t hl he ht ih=>
  intro q d hd b;rw[EB]at b;simp only[aB,aJ,aS]at b;have j:=RX (N:=N) (q:=q+1+(gK e).length+1) (d:=d+1) (fun m i q b=>⟨ih m i q (d+1) (by omega) b,nB (ht m i) q⟩) (by omega);rw[GN,iC,gH,(Z6 (by omega) (by omega)).2];rw[show zl ((d:Int)+1) 0=zl ((d+1:Nat):Int) 0 from rfl,show q+[(87:Int)].length=q+1 from rfl,iC,pZ he (q+1) (d+1) (by omega),kG,iC,gH,(P5 (by omega) (by omega)).2,show(((d+1+1:Nat):Int)- 1)=((d+1:Nat):Int)by omega,iC];rw[show q+1+(gK e).length+[857735172+4 *((q+1+(gK e).length+1+(iS t).length:Nat):Int)].length=q+1+(gK e).length+1 from rfl,j,gH];rw[(uK (A:=908066816) (X:=hI 22 2 0 0) (g:=1) (by decide) (by decide) (by decide) (by decide) (by decide) (by decide) (by omega) (by omega)).2,show(((d+1:Nat):Int)+1 - 2)=(d:Int)by omega]
end
def SR (V:UInt8→Prop) (A:Prop) (rs:dC→Bool×Int) (W:List Int) (cx:Cx) (q2 B d M tk:Nat) (s:Mc):Rz (Option Int×List Int)→Prop
 | .val p st'=>p=(none,[])∧ ∃k s',k+M *tk≤B+M *st'.ticks∧Go W cx.inp k s s'∧s'.pc=((4 *q2:Nat):Int)∧MR V A rs st' s'∧ ∀j,j<d+2→s'.mem[j]?=s.mem[j]?
 | .fin x st'=>x≠0∧(x=5∨ ∃k s',k+1+M *tk≤B+M *st'.ticks∧Fin W cx.inp k s x s'∧s'.out=st'.out)
structure Qc (V:UInt8→Prop) (A:Prop) (rs:dC→Bool×Int) (W:List Int) (cx:Cx) (N M n:Nat):Prop where
 S: ∀{lv:Int} {m:Sm},SS V A lv m→ ∀(q d:Nat) (st:RS) (s:Mc) (r:Rz (Option Int×List Int)),(d:Int)+1≤lv→q+(nW m).length≤N→P2 W (4 *q) (jN (yN q m) q (zl d 0)).2→s.pc=((4 *q:Nat):Int)→MR V A rs st s→rA cx n rs [] m st=some r→SR V A rs W cx (q+(nW m).length) (4 *(nW m).length) d M st.ticks s r
 L: ∀{lv:Int} {l:List Sm},(∀m∈l,SS V A lv m)→ ∀(q d:Nat) (st:RS) (s:Mc) (r:Rz (Option Int×List Int)),(d:Int)+1≤lv→q+(iS l).length≤N→P2 W (4 *q) (jN (uW q l) q (zl d 0)).2→s.pc=((4 *q:Nat):Int)→MR V A rs st s→oS cx n rs [] l st=some r→SR V A rs W cx (q+(iS l).length) (4 *(iS l).length) d M st.ticks s r
 Wh: ∀{lv:Int} {e:Ex} {t:List Sm},SX V A (lv+1) e→(∀m∈t,SS V A (lv+1) m)→lv≤24→ ∀(q d:Nat) (st:RS) (s:Mc) (r:Rz (Option Int×List Int)),(d:Int)+1≤lv→q+(nW (.mk 5 [] [e] t [])).length≤N→P2 W (4 *q) (jN (yN q (.mk 5 [] [e] t [])) q (zl d 0)).2→s.pc=((4 *q:Nat):Int)→MR V A rs st s→Af cx n rs [] e t st=some r→SR V A rs W cx (q+(nW (.mk 5 [] [e] t [])).length) 0 d M st.ticks s r
section
variable {V : UInt8 → Prop} {A : Prop} {rs : dC → Bool × Int} {W : List Int} {cx : Cx}
theorem MR.same {st st':RS} {s s':Mc} (h:MR V A rs st s) (b:s'.mem=s.mem) (k:s'.rd=s.rd) (j:s'.out=s.out) (d:st'.vars=st.vars) (e:st'.arrs=st.arrs) (f:st'.read=st.read) (g:st'.out=st.out):MR V A rs st' s':=
 ⟨by rw[b];exact h.len,by rw[k,f];exact h.rd,by rw[j,g];exact h.out,fun c i=>by rw[d,b];exact h.vars c i,fun a=>by rw[e,b];exact h.arr a⟩
end
section
variable {cx : Cx} {r v : Nat} {abs : List Nat} {st : RS} {vo : AV} {H : Hp}
end
section
variable {cx : Cx} {r v : Nat} {abs : List Nat} {st : RS} {vo : AV} {H : Hp}
end
section
variable {cx : Cx} {r v : Nat} {abs : List Nat} {n : Nat}
end
section
variable {cx : Cx} {r v : Nat} {abs : List Nat} {n : Nat}
def Nx (cx:Cx) (n:Nat) (f:Cf) (len:Nat) (vs:List Int) (st:RS):Option (Rz Int):=
 bindR (some (nF cx st)) fun _ st=>bindR (oS cx n f.res (vs++List.replicate (f.words-len) 0) f.body st) fun r st=>some (.val (r.1.getD 0) st)
end
section
variable {cx : Cx} {r v : Nat} {abs : List Nat} {n : Nat}
end
section
variable {cx : Cx} {r v : Nat} {abs : List Nat} {n : Nat}
end
def TS (e:Int) (out:dC) (t:Nat):AV:= .agg [.int .i64 e, .str out, .int .i64 t]
end Go.Proofs.YtaecpjgmcffliaaGreatDoor
namespace Go.Al
structure Tq (b7 bv:Nat) (bs:List Nat) (A:List (List Int)) (va:AV) (H:Hp):Prop where
 l:bs.length=A.length
 o:dW 1 va (fN bs A) H
 a: ∀(i:Nat) b l,bs[i]?=some b→A[i]?=some l→H b=some (.rows 1 (l.map iH))
 nd:bs.Nodup
 nv:bv∉bs
 n7:b7∉bs
 ov:off va bv
 o7:off va b7
 ob: ∀b∈bs,off va b
theorem Tq.some {e f:Nat} {c:List Nat} {A:List (List Int)} {k:AV} {H:Hp} (h:Tq e f c A k H) {b:Nat} (g:b∈c): ∃l,H b=some (.rows 1 l):=by
 obtain⟨i,d⟩:=gF g;have j:i<A.length:=by have:=(bC.1 d).1;rw[←h.l];exact this
 exact⟨_,h.a i b _ d (aD j)⟩
theorem J0 {sz:Nat} {v:AV} {rows:List (List AV)} {H H':Hp} (h:dW sz v rows H) (d: ∀b o,H b=Option.some o→H' b=Option.some o):dW sz v rows H':=by
 rcases h with g|⟨b,a,c⟩
 ·exact .inl g
 exact .inr ⟨b,a,d _ _ c⟩
theorem Tq.keep {c e:Nat} {d:List Nat} {A:List (List Int)} {g:AV} {H H':Hp} (h:Tq c e d A g H) (f: ∀b o,H b=Option.some o→H' b=Option.some o):Tq c e d A g H':=
 {h with o:=J0 h.o f,a:=fun i b l j k=>f _ _ (h.a i b l j k)}
theorem zU: ∀(a:List Nat) (A:List (List Int)) (b:Nat) (l:List Int),a.length=A.length→fN (a++[b]) (A++[l])=fN a A++[[.osl 1 b l.length]]
 |[],[],_,_,_=>rfl
 |x::a,y::A,b,l,h=>by simp only[cN,fN,zU a A b l (by simpa using h)]
 |[],_::_,_,_,h=>by simp at h
 |_::_,[],_,_,h=>by simp at h
theorem Tq.snoc {f j:Nat} {d:List Nat} {A:List (List Int)} {t v':AV} {H H':Hp} (h:Tq f j d A t H) {b:Nat} {l:List Int} (z:H b=none) (u:H f≠none) (B:H j≠none) (I:dW 1 v' (fN d A++[[.osl 1 b l.length]]) H')
  (G: ∀x o,upd H b (Option.some (.rows 1 (l.map iH))) x=Option.some o→t≠ .osl 1 x (fN d A).length→H' x=Option.some o) (k: ∀x,off t x→upd H b (Option.some (.rows 1 (l.map iH))) x≠none→off v' x) {g O:Nat} {T:List (List AV)} (D:H' g=Option.some (.rows O T)) (P:gY) (J:O≠1:=by decide):
  Tq f j (d++[b]) (A++[l]) v' (upd H' g (Option.some P)):=by
 have nb: ∀x,H x≠none→x≠b:=fun x hx e=>hx (by rw[e];exact z);have N:off t b:=h.o.new z;have n: ∀x,x≠b→upd H b (Option.some (.rows 1 (l.map iH))) x=H x:=fun x hx=>cR _ _ hx;have v: ∀x∈d,H x≠none:=fun x hx=>by obtain⟨l,c⟩:=h.some hx;rw[c];exact bY _
 have E:H' b=Option.some (.rows 1 (l.map iH)):=G b _ (bG _ _ _) (N _ _);have C: ∀x p,H' x=Option.some (.rows 1 p)→x≠g:=fun x p hx e=>by rw[e,D]at hx;cases hx;exact J rfl
 have Q:off v' g:=I.offsz D J;refine⟨by simp [h.l],by rw[zU _ _ _ _ h.l];exact I.off Q _,fun i x p hx c=>?_, ?_, ?_, ?_,k j h.ov (by rw[n _ (nb _ B)];exact B),k f h.o7 (by rw[n _ (nb _ u)];exact u),fun x hx=>?_⟩
 ·by_cases F:i<d.length
  ·rw[fB F]at hx
   rw[fB (by rw[←h.l];exact F)]at c;have L:=h.a i x p hx c;have K:=G x _ (by rw[n _ (nb _ (by rw[L];exact bY _))];exact L) (h.ob x (aW hx) _ _);rw[cR _ _ (C _ _ K)];exact K
  rw[gQ (by omega)]at hx;rw[gQ (by rw[←h.l];omega),←h.l]at c;obtain⟨R,U⟩:=bC.1 hx;have S:i-d.length=0:=by simpa using R
  rw[S]at hx c;simp only[gB,Option.some.injEq]at hx c;subst hx;subst c;rw[cR _ _ (C _ _ E)];exact E
 ·rw[List.nodup_append]
  refine⟨h.nd,by simp,fun x hx y M e=>?_⟩;rw[bA]at M;subst M;subst e;exact v _ hx z
 ·simp only[eR,bA,not_or]
  exact⟨h.nv,nb _ B⟩
 ·simp only[eR,bA,not_or]
  exact⟨h.n7,nb _ u⟩
 rcases eR.1 hx with hx|hx
 ·exact k x (h.ob x hx) (by rw[n _ (nb _ (v x hx))];exact v x hx)
 rw[bA]at hx;subst hx;exact k x N (by rw[bG];exact bY _)
theorem nJ.sub {cx:Cx} {r v:Nat} {abs:List Nat} {st:RS} {vo:AV} {H H':Hp} (h:nJ cx r v abs st vo H) (c: ∀b o,H b=Option.some o→H' b=Option.some o):nJ cx r v abs st vo H':=
 {h with r:=c _ _ h.r,v:=c _ _ h.v,a:=fun i b l d e=>c _ _ (h.a i b l d e),o:=J0 h.o c}
end Go.Al
namespace Go.Proofs.YtaecpjgmcffliaaGreatDoor
open Go.Al Go.Proofs.Tryz
def zz (a:Ar):List Int:=List.replicate a.size.toNat 0
def Z1 (p:Pg) (inp:dC) (fu:Int):Cx:=⟨p.funs.map (Sl (oD p)),inp,(if fu<0 then 0 else fu).toNat⟩
structure JY (p:Pg):Prop where
 ok:p.ok
 n:(jZ p).Nodup
 nl: ∀f∈p.funs,(gI f).Nodup
 v:p.vars.length≤10000
 a:p.arrs.length≤10000
 f:p.funs.length≤10000
 f1:1≤p.funs.length
 fs: ∀f∈p.funs,f.params.length≤10000∧f.locs.length≤1100000∧mQ f.body≤1000000
 sz: ∀a∈p.arrs,0≤a.size∧a.size≤4096
end Go.Proofs.YtaecpjgmcffliaaGreatDoor
namespace Go.Al
theorem Aw (s:dC): ∀A B:List Pl,vM (A++B) s=match vM A s with |some r=>some r|none=>vM B s
 |[],B=>rfl
 |t::A,B=>by
  simp only[cN,vM];split
  ·rfl
  exact Aw s A B
theorem sV (b:Bool) (s:dC): ∀(l:List dC) (i:Nat),vM (QB b i l) s=(cV l s).map fun k=>(b,((i+k:Nat):Int))
 |[],_=>rfl
 |x::l,i=>by
  simp only[QB,vM,cV];by_cases h:s=x
  ·subst h;simp
  rw[aM h,aM (fun e=>h e.symm),sV b s l (i+1)]
  cases cV l s with
  |none=>rfl
  |some k=>simp only[eW];congr 3;omega
theorem yC (s:dC): ∀A B:List dC,cV (A++B) s=match cV A s with |some k=>some k|none=>(cV B s).map (· +A.length)
 |[],B=>by
  simp only[dE,cV,aS];cases cV B s<;>rfl
 |x::A,B=>by
  simp only[cN,cV];split
  ·rfl
  rw[yC s A B]
  cases cV A s with
  |some k=>rfl
  |none=>
   cases cV B s with
   |none=>rfl
   |some k=>simp only[eW,aJ];congr 1
theorem KX {p:Pg} {i:Nat} {f:Fu} (l:p.funs[i]?=some f) (s:dC):FD (oD p) (HL f) s=(decide ((eL p i s).1=1),if(eL p i s).1=0 then 0 else(eL p i s).2)∧
  ((eL p i s).1=1→0≤(eL p i s).2∧(eL p i s).2<((f.params.length+f.locs.length:Nat):Int))∧((eL p i s).1=2→0≤(eL p i s).2∧(eL p i s).2<(p.vars.length:Int))∧((eL p i s).1=3→0≤(eL p i s).2∧(eL p i s).2<(p.arrs.length:Int))∧((eL p i s).1=4→0≤(eL p i s).2∧(eL p i s).2<(p.funs.length:Int)):=by
 have j:vM (HL f) s=(cV (gI f) s).map fun k=>(true,((0+k:Nat):Int)):=sV true s _ 0
 have g:vM (oD p) s=match cV p.vars s with
  |some k=>some (false,(k:Int))
  |none=>match cV (p.arrs.map Ar.name) s with
   |some k=>some (false,(k:Int))
   |none=>(cV (p.funs.map Fu.name) s).map (fun k:Nat=>((false,(k:Int)):Bool×Int)):=by
  rw[oD,Aw,Aw,sV,sV,sV];cases cV p.vars s<;>cases cV (p.arrs.map Ar.name) s<;>cases cV (p.funs.map Fu.name) s<;>simp
 unfold eL FD;rw[j,g,l];simp only[cA];rcases KA (cV (gI f) s)with c|⟨k,c⟩
 rotate_left
 ·have:=(iO _ _ _ c).1
  have n:(gI f).length=f.params.length+f.locs.length:=aB;simp only[c,eW,nS,eC];refine⟨by simp,fun _=>⟨by omega,by omega⟩,fun h=>absurd h (by simp),fun h=>absurd h (by simp),fun h=>absurd h (by simp)⟩
 simp only[c,hQ];unfold qZ jZ;rw[yC,yC];rcases KA (cV p.vars s)with a|⟨k,a⟩
 rotate_left
 ·have:=(iO _ _ _ a).1
  simp only[a,bP this];refine⟨by simp,fun h=>absurd h (by simp),fun _=>⟨by omega,by omega⟩,fun h=>absurd h (by simp),fun h=>absurd h (by simp)⟩
 rcases KA (cV (p.arrs.map Ar.name) s)with b|⟨k,b⟩
 rotate_left
 ·have e:=(iO _ _ _ b).1
  rw[aE]at e;simp only[a,b,eW,aM (show ¬(k+p.vars.length<p.vars.length)from by omega),Nat.add_sub_cancel,bP e];refine⟨by simp,fun h=>absurd h (by simp),fun h=>absurd h (by simp),fun _=>⟨by omega,by omega⟩,fun h=>absurd h (by simp)⟩
 rcases KA (cV (p.funs.map Fu.name) s)with d|⟨k,d⟩
 rotate_left
 ·have e:=(iO _ _ _ d).1
  rw[aE]at e;simp only[a,b,d,eW,hQ,aB,aE];rw[aM (show ¬(k+(p.vars.length+p.arrs.length)<p.vars.length)from by omega),aM (show ¬(k+(p.vars.length+p.arrs.length)-p.vars.length<p.arrs.length)from by omega),show k+(p.vars.length+p.arrs.length)-p.vars.length-p.arrs.length=k from by omega];refine⟨by simp,fun h=>absurd h (by simp),fun h=>absurd h (by simp),fun h=>absurd h (by simp),fun _=>⟨by omega,by omega⟩⟩
 simp only[a,b,d,hQ];refine⟨by simp,fun h=>absurd h (by simp),fun h=>absurd h (by simp),fun h=>absurd h (by simp),fun h=>absurd h (by simp)⟩
end Go.Al
namespace Go.Proofs.YtaecpjgmcffliaaGreatDoor
open Go.Al Go.Proofs.Tryz
theorem Am {p:Pg} (h:iE p=0):fV p=true∧(jZ p).Nodup∧kB p=true∧qS p=true:=by
 unfold iE at h;by_cases b:fV p=true
 ·rw[bP b]at h
  by_cases a:kL p=0
  ·refine⟨b, ?_⟩
   unfold kL at a;split at a
   ·rename_i c
    split at a
    ·rename_i e
     have d:=c;simp only[kB,aU,bO]at d;exact⟨d.1,c,e⟩
    cases a
   cases a
  rw[aM a]at h;exact absurd h a
 rw[aM b]at h;cases h
theorem Vs (p:Pg): ∀(l:List Fu) (i:Nat),jF p i l=true→ ∀(j:Nat) f,l[j]?=some f→(dY f.body).all (yE p (i+j))=true
 |[],_,_,_,_,hf=>by simp at hf
 |g::l,i,h,j,f,hf=>by
  simp only[jF,aU]at h
  cases j with
  |zero=>simp at hf;subst hf;exact h.1
  |succ j=>
   have:=Vs p l (i+1) h.2 j f (by simpa using hf);rwa [show i+1+j=i+(j+1)by omega]at this
theorem EQ {p:Pg} (b:p.few) (h:iE p=0):JY p:=by
 obtain⟨c,j,d,l⟩:=Am h;simp only[fV,aU,bO,cD]at c;simp only[kB,aU]at d;refine⟨b.ok,j,fun f g=>?_,b.v,b.a,b.f,c.1.1.1.2,b.fs,fun a e=>?_⟩
 ·obtain⟨i,k⟩:=gF g
  exact(nL p p.funs 0 d.2 i f k).1
 have:=c.1.2 a e;simp only[pA,aU,bO]at this;omega
def XG:dC→Bool×Int:=FD (oD eY) (HL qA)
theorem TP:oG XG:=⟨rfl,rfl,rfl,rfl,rfl,rfl,rfl,rfl,rfl,rfl,rfl⟩
theorem FA {V:UInt8→Prop} {A:Prop} {l:List Sm} (g: ∀m∈l,SS V A 1 m) (f:(iS l++[36]).length≤2500) (c:Int) (y:7 *((iS l++[36]).length:Int)+50<c):
  ∃n t,PY (Z1 eY (iS l++[36]) c) n eY.vars.length (eY.arrs.map fun a=>a.size.toNat)=some (1,uP (Wm (uW 0 l++[36])),t)∧t≤7 *(iS l++[36]).length+50:=by
 have p:=LI g
 have v: ∀x∈uW 0 l++[36],0≤x∧x<4294967296:=fun x d=>by
  rw[eR,bA]at d;rcases d with d|rfl
  ·exact J7 (N:=2500) (by decide) (b:=0) (fun m u b k=>UG (by decide) (g m u) b k) (by rw[aB]at f;omega) x d
  decide
 have o:(Z1 eY (iS l++[36]) c).fuel=c.toNat:=by
  show(if c<0 then 0 else c).toNat=_;rw[aM (by omega)]
 obtain⟨n,st,e,i,j⟩:=KT (cx:=Z1 eY (iS l++[36]) c) (t:=iS l++[36]) TP rfl f (by rw[o];omega) p v;refine⟨n,st.ticks, ?_,j⟩;have e:oS (Z1 eY (iS l++[36]) c) n (Sl (oD eY) qA).res (List.replicate (Sl (oD eY) qA).words 0) (Sl (oD eY) qA).body (RS.init eY.vars.length (eY.arrs.map fun a=>a.size.toNat))=_:=e;show(some (Sl (oD eY) qA)).bind _=_;rw[cA,e,eW];simp only[IM,i]
mutual
def WF:Ex→Int→Bool
 | .mk k o n s l,lv=>HM (.mk k o n s l) lv&&mM k o l.length&&SC l (lv+1)
def SC:List Ex→Int→Bool
 |[],_=>true
 |e::l,lv=>WF e lv&&SC l lv
end
mutual
theorem PZ: ∀(e:Ex) (a:Int),WF e a=kV e a
 | .mk k o n s l,a=>by simp only[WF,kV,Ex.kind,Ex.op,Ex.kids,Zv l]
theorem Zv: ∀(l:List Ex) (a:Int),SC l a=kK l a
 |[],_=>by simp only[SC,nT]
 |e::l,a=>by simp only[SC,pO,PZ e,Zv l]
end
mutual
def WH:Sm→Int→Bool
 | .mk k s l t u,lv=>N2 (.mk k s l t u) lv&&Lp k l.length&&SC l (lv+1)&&SB t (lv+1)&&SB u (lv+1)
def SB:List Sm→Int→Bool
 |[],_=>true
 |e::l,lv=>WH e lv&&SB l lv
end
mutual
def uX:Ex→List Us
 | .mk k o n s l=>mO (.mk k o n s l)++uE l
def uE:List Ex→List Us
 |[]=>[]
 |e::l=>uX e++uE l
end
mutual
theorem SQ: ∀e:Ex,uX e=mO e++fE e.kids
 | .mk k o n s l=>by simp only[uX,Ex.kids,AG l]
theorem AG: ∀l:List Ex,uE l=fE l
 |[]=>by simp only[uE,fE]
 |e::l=>by simp only[uE,lG,SQ e,AG l]
end
mutual
def uM:Sm→List Us
 | .mk k s l t u=>kI (.mk k s l t u)++uE l++uS t++uS u
def uS:List Sm→List Us
 |[]=>[]
 |e::l=>uM e++uS l
end
mutual
theorem SU: ∀e:Sm,uM e=kI e++fE e.es++dY e.thn++dY e.els
 | .mk k s l t u=>by simp only[uM,Sm.es,Sm.thn,Sm.els,AG l,Ue t,Ue u]
theorem Ue: ∀l:List Sm,uS l=dY l
 |[]=>by simp only[uS,dY]
 |e::l=>by simp only[uS,mR,SU e,Ue l]
end
mutual
def kX:Ex→Bool
 | .mk k o n s l=>decide (-9223372036854775808≤k∧k<9223372036854775808)&&decide (-9223372036854775808≤o∧o<9223372036854775808)&&decide (0≤n∧n<4294967296)&&decide (s.length≤9223372036854775807)&&decide (l.length≤9223372036854775807)&&UP l
def UP:List Ex→Bool
 |[]=>true
 |e::l=>kX e&&UP l
end
mutual
theorem UM: ∀e:Ex,kX e=true→e.ok
 | .mk k o n s l,h=>by
   simp only[kX,aU,bO]at h;exact .mk _ _ _ _ _ h.1.1.1.1.1 h.1.1.1.1.2 h.1.1.1.2 h.1.1.2 h.1.2 (HD l h.2)
theorem HD: ∀l:List Ex,UP l=true→ ∀e∈l,e.ok
 |[],_=>fun e he=>by cases he
 |x::l,h=>fun e he=>by
  simp only[UP,aU]at h;rcases bK.1 he with a|he
  ·rw[a];exact UM x h.1
  exact HD l h.2 e he
end
mutual
def kM:Sm→Bool
 | .mk k s l t u=>decide (-9223372036854775808≤k∧k<9223372036854775808)&&decide (s.length≤9223372036854775807)&&decide (l.length≤9223372036854775807)&&UP l&&decide (t.length≤9223372036854775807)&&UN t&&decide (u.length≤9223372036854775807)&&UN u
def UN:List Sm→Bool
 |[]=>true
 |e::l=>kM e&&UN l
end
mutual
theorem UO: ∀e:Sm,kM e=true→e.ok
 | .mk k s l t u,h=>by
   simp only[kM,aU,bO]at h;exact .mk _ _ _ _ _ h.1.1.1.1.1.1.1 h.1.1.1.1.1.1.2 ⟨h.1.1.1.1.1.2,HD l h.1.1.1.1.2⟩ h.1.1.1.2 (L6 t h.1.1.2) h.1.2 (L6 u h.2)
theorem L6: ∀l:List Sm,UN l=true→ ∀e∈l,e.ok
 |[],_=>fun e he=>by cases he
 |x::l,h=>fun e he=>by
  simp only[UN,aU]at h;rcases bK.1 he with a|he
  ·rw[a];exact UO x h.1
  exact L6 l h.2 e he
end
mutual
theorem QA: ∀(e:Sm) (a:Int),WH e a=kW e a
 | .mk k s l t u,a=>by simp only[WH,kW,Sm.kind,Sm.es,Sm.thn,Sm.els,Zv l,Qv t,Qv u]
theorem Qv: ∀(l:List Sm) (a:Int),SB l a=jB l a
 |[],_=>by simp only[SB,tL]
 |e::l,a=>by simp only[SB,pN,QA e,Qv l]
end
theorem KV:WI Qq=some eY:=by kernel_rfl
theorem Gm:fV eY=true:=by
 have h:jB oV 1=true:=by rw[←Qv];kernel_rfl
 simp only[fV,kY,eY,qA,dT,gN,h]
 decide+kernel
theorem EZ:Zq Qq=(eY,0,0):=I1 KV Gm
theorem Qs:eY.ok:=by
 have a:xH oV:=⟨show oV.length≤9223372036854775807 from aF (by kernel_rfl),L6 oV (by kernel_rfl)⟩;have b:qA.ok:=⟨by simp [eV,qA],⟨by simp [eV,qA],by simp [qA]⟩,⟨by simp [eV,qA],by simp [qA]⟩,a⟩;refine⟨⟨by simp [eV,eY],by simp [eV,eY]⟩,by simp [eV,eY],by simp [eY,iK,eV],by simp [eV,eY],fun f h=>?_⟩;simp only[eY,bA]at h;subst h;exact b
theorem yX:eY.few:=by
 refine⟨Qs,by simp [eY],by simp [eY],by simp [eY],fun f h=>?_⟩;simp only[eY,bA]at h;subst h;exact⟨by simp [qA],by simp [qA],show mQ oV≤1000000 from aF (by kernel_rfl)⟩
theorem tK:iE eY=0:=by
 unfold iE;rw[bP Gm]
 have a:kB eY=true:=by
  show(decide (jZ eY).Nodup&&(decide (gI qA).Nodup&&(dY oV).all (iT eY 0)&&true))=true;rw[←Ue]
  decide+kernel
 have b:qS eY=true:=by
  show(((dY oV).all (yE eY 0)&&true)&&zC eY)=true;rw[←Ue]
  decide+kernel
 unfold kL;rw[bP a,bP b,bP rfl]
 decide+kernel
theorem Gl:gZ (fun l=>l.all yA) eY=true:=by
 unfold gZ;rw[tK]
 decide+kernel
theorem KO:decide ((Qq.length:Int)≤12000)=true:=by kernel_rfl
theorem J1:eH dN 16 [] (.tup [eY.av, .bool true]):=by
 have b:=Ny Qq (show Qq.length≤1000000 from aF (by kernel_rfl));rw[EZ]at b;have j:=Jn;have c:=yH eY Qs (fun _=>yX);rw[←xZ,Gl]at c;have k:=KO;have l:eY.av= .agg [.isl 1 (eY.vars.map bH), .isl 2 (eY.arrs.map Ar.row), .isl 5 (eY.funs.map Fu.row)]:=rfl;have n:Zw (eY,0,0)= .tup [eY.av, .int .i64 0, .int .i64 0]:=rfl;rw[n]at b;generalize Qq=y at *;rw[l]at b c⊢;generalize eY.vars.map bH=t at *;generalize eY.arrs.map Ar.row=u at *;generalize eY.funs.map Fu.row=v at *;refine bX 25 [.cell 0 26, .tmp 1] func16 ?_;refine aA fun K a=>?_;simp only[RR,seval];refine aQ fun d p=>?_;simp only[RR,seval];refine a _ _ (aA fun K a=>?_);simp only[RR,seval];refine aP (j) ?_;simp only[RR,seval];refine a _ _ (aA fun K a=>?_);simp only[RR,seval];refine aP (b) ?_;simp only[RR,seval];refine aQ fun f g=>?_;have i:f≠d:=fun e=>by rw[e]at g;simp only[RR,seval,reduceCtorEq]at g
 have o:=i.symm;simp only[RR,seval];refine a _ _ (aC fun K a=>?_);refine bF (fun x=>x≠d∧x≠f) [(0,0),(1,3),(2,3),(3,3),(4,3),(5,3),(6,3),(7,3),(8,3),(9,1),(10,1),(11,3)] [(12,1),(13,3)] eP (by kernel_rfl) rfl rfl ?_;simp only[eM,gL,i,k,RR,seval];refine aP (c) ?_;simp only[o,RR,seval];apply a;refine aO ?_;simp only[aY,aK,bR,RR,seval];refine aZ.pure ?_;rfl
end Go.Proofs.YtaecpjgmcffliaaGreatDoor
namespace Go.Al
def WE (x:Int):List AV:=[.int .i64 x]
structure pS (W:List Int) (inp:dC) (r bm bc:Nat) (vo:AV) (s:Mc) (en:Int) (H:Hp):Prop where
 r:H r=some (.rows 28 [[.int .i64 s.pc, .int .u32 0, .int .u32 s.r1, .int .u32 s.r2, .int .u32 0, .int .u32 0, .int .u32 0, .int .u32 0, .int .u32 0, .int .u32 0, .int .u32 0, .int .u32 0, .int .u32 0, .int .u32 0, .int .u32 0, .int .u32 0, .int .u32 0, .osl 1 bm 4224, .int .i64 s.rd, .str [], .int .i64 s.st, .int .i64 en,vo, .isl 4 (W.map V4), .isl 1 (W.map fun _=>[.bool true]), .isl 1 (W.map iH), .str inp, .osl 1 bc W.length]])
 m:H bm=some (.rows 1 (s.mem.map iH))
 ml:s.mem.length=4224
 c: ∃cn:List Int,cn.length=W.length∧H bc=some (.rows 1 (cn.map WE))
 o:dW 1 vo (s.out.map sB) H
 om:off vo bm
 oc:off vo bc
 mc:bm≠bc
 ol:s.out.length≤65536
 u1:eB s.r1
 u2:eB s.r2
 um: ∀x∈s.mem,eB x
 rd:s.rd≤inp.length
def pV (r bm bc:Nat) (vo vo':AV) (H H':Hp):Prop:= ∀b o,H b=some o→b≠r→b≠bm→b≠bc→off vo b→H' b=some o∧off vo' b
section
variable {W : List Int} {inp : dC} {r bm bc : Nat} {vo vo' vo2 : AV} {s s' : Mc} {en en' : Int} {H H' H2 : Hp}
theorem pV.refl (r bm bc:Nat) (vo:AV) (H:Hp):pV r bm bc vo vo H H:=fun _ _ h _ _ _ a=>⟨h,a⟩
theorem pV.trans (h:pV r bm bc vo vo' H H') (g:pV r bm bc vo' vo2 H' H2):pV r bm bc vo vo2 H H2:=fun b o j a c d i=>by
 obtain⟨e,f⟩:=h b o j a c d i;exact g b o e a c d f
theorem pS.nmr (h:pS W inp r bm bc vo s en H):bm≠r:=fun e=>by have a:=h.m;have b:=h.r;rw[e,b]at a;cases a
theorem pS.ncr (h:pS W inp r bm bc vo s en H):bc≠r:=fun e=>by obtain⟨d,_,a⟩:=h.c;have b:=h.r;rw[e,b]at a;cases a
theorem pS.or (h:pS W inp r bm bc vo s en H):off vo r:=h.o.offsz h.r (by decide)
theorem pS.turn (h:pS W inp r bm bc vo s en H) (n:H' r=some (.rows 28 [[.int .i64 s'.pc, .int .u32 0, .int .u32 s'.r1, .int .u32 s'.r2, .int .u32 0, .int .u32 0, .int .u32 0, .int .u32 0, .int .u32 0, .int .u32 0, .int .u32 0, .int .u32 0, .int .u32 0, .int .u32 0, .int .u32 0, .int .u32 0, .int .u32 0, .osl 1 bm 4224, .int .i64 s'.rd, .str [], .int .i64 s'.st, .int .i64 en',vo, .isl 4 (W.map V4), .isl 1 (W.map fun _=>[.bool true]), .isl 1 (W.map iH), .str inp, .osl 1 bc W.length]])) (g: ∀b,b≠r→H' b=H b) (f:s'.mem=s.mem) (i:s'.out=s.out) (t:eB s'.r1) (u:eB s'.r2) (p:s'.rd≤inp.length):pS W inp r bm bc vo s' en' H':=by
 obtain⟨l,j,k⟩:=h.c;refine⟨n,by rw[f,g _ h.nmr];exact h.m,by rw[f];exact h.ml,⟨l,j,by rw[g _ h.ncr];exact k⟩, ?_,h.om,h.oc,h.mc,by rw[i];exact h.ol,t,u,by rw[f];exact h.um,p⟩;rw[i];rcases h.o with⟨a,d⟩|⟨b,a,d⟩
 ·exact .inl ⟨a,d⟩
 exact .inr ⟨b,a,by rw[g b (fun e=>h.or _ _ (by rw[a,e]))];exact d⟩
theorem pV.turn (e: ∀b,b≠r→H' b=H b):pV r bm bc vo vo H H':=fun b o d a _ _ c=>⟨by rw[e b a];exact d,c⟩
theorem pS.same (h:pS W inp r bm bc vo s en H) (a: ∀b,H' b=H b):pS W inp r bm bc vo s en H':=by
 have :H'=H:=funext a;rw[this];exact h
theorem pS.new (h:pS W inp r bm bc vo s en H) {b:Nat} (a:H b=none) (o:Option gY):pS W inp r bm bc vo s en (upd H b o):=by
 have i:r≠b:=fun e=>by have:=h.r;rw[e,a]at this;cases this
 have j:bm≠b:=fun e=>by have:=h.m;rw[e,a]at this;cases this
 obtain⟨g,f,d⟩:=h.c;have k:bc≠b:=fun e=>by rw[e,a]at d;cases d
 exact {h with r:=by rw[cR _ _ i];exact h.r,m:=by rw[cR _ _ j];exact h.m,c:=⟨g,f,by rw[cR _ _ k];exact d⟩,o:=h.o.upd a o}
theorem pV.new {b:Nat} {o:Option gY} (j:H b=none) (h:pV r bm bc vo vo' (Go.Al.upd H b o) H'):pV r bm bc vo vo' H H':=fun c k a d f g i=>by
 have :c≠b:=fun e=>by rw[e,j]at a;cases a
 exact h c k (by rw[cR _ _ this];exact a) d f g i
theorem pS.far (h:pS W inp r bm bc vo s en H) (d: ∀b,H b≠none→H' b=H b):pS W inp r bm bc vo s en H':=by
 obtain⟨i,g,f⟩:=h.c;refine⟨by rw[d _ (by rw[h.r];exact bY _)];exact h.r,by rw[d _ (by rw[h.m];exact bY _)];exact h.m,h.ml,⟨i,g,by rw[d _ (by rw[f];exact bY _)];exact f⟩, ?_,h.om,h.oc,h.mc,h.ol,h.u1,h.u2,h.um,h.rd⟩;rcases h.o with⟨e,a⟩|⟨b,e,a⟩
 ·exact .inl ⟨e,a⟩
 exact .inr ⟨b,e,by rw[d _ (by rw[a];exact bY _)];exact a⟩
end
end Go.Al
namespace Go.Proofs.YtaecpjgmcffliaaGreatDoor
open Go.Al Go.Proofs.Tryz
section
variable {W : List Int} {inp : dC} {r bm bc : Nat} {vo : AV} {s : Mc} {en : Int} {H : Hp}
end
end Go.Proofs.YtaecpjgmcffliaaGreatDoor
