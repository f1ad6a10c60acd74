/- Qe -/
import Derived.Test.YtaecpjgmcffliaaGreatDoorJf
import Derived.Test.YtaecpjgmcffliaaGreatDoorWb
import Derived.Test.YtaecpjgmcffliaaGreatDoorSy2
import Derived.Test.YtaecpjgmcffliaaGreatDoorSc1
set_option linter.unusedSimpArgs false
set_option linter.unusedVariables false
set_option maxRecDepth 10000
set_option maxHeartbeats 1000000
namespace Go.Al
def Nr (T:List Int):List Int:=[1145390419,4 *(T.length:Int),4224]
def zK (T:List Int) (k:Nat):Zs×List Int:=iL ((T++[0]).take k) 0 OT
def LK (T:List Int) (k:Nat):List Int:=Nr T++(zK T k).2
theorem oY.go {a:dD→Bool×Int} (H:oY a) {c n o x s m v d i q:Int} {arr:List Int} {rd:Nat} {b:dD} {e:Nat} (h: ¬n<q):PV a (jY c n o x s m v d i q arr rd b e) (.mk 7 0 0 [] [.mk 6 14 0 [] [.mk 2 0 0 [110] [], .mk 2 0 0 [113] []]]) 1:= .neg (x:=0) (.op H.vn H.vq (by rw[Dm,aJ h])) rfl
theorem oY.stop {a:dD→Bool×Int} (H:oY a) {c n o x s m v d i q:Int} {arr:List Int} {rd:Nat} {b:dD} {e:Nat} (h:n<q):PV a (jY c n o x s m v d i q arr rd b e) (.mk 7 0 0 [] [.mk 6 14 0 [] [.mk 2 0 0 [110] [], .mk 2 0 0 [113] []]]) 0:= .neg (x:=1) (.op H.vn H.vq (by rw[Dm,bD h])) rfl
theorem QV (T:List Int):zK T T.length=iL T 0 OT:=by unfold zK;rw[List.take_left'];rfl
theorem LJ {T:List Int} {k:Nat} {c:Int} (h:(T++[0])[k]?=some c):zK T (k+1)=(Bh (k:Int) c (zK T k).1,(zK T k).2++vW (k:Int) c (zK T k).1):=by
 obtain⟨a,rfl⟩:=bF.1 h;unfold zK;rw[bW a,U6,dV,Nat.min_eq_left (by omega),bV]
def KI (T:List Int) (aR:List Int) (tk0:Nat) (k:Nat) (st:RS):Prop:= ∃c o x v pend out arr tk,pend.length≤4∧PW arr pend∧arr.length=4096∧(∀j,j<4000→arr[j]?=aR[j]?)∧out++vN pend=vN (LK T k)∧(k=T.length+1→out=vN (LK T T.length))∧tk≤tk0+1+6 *k∧(0≤(zK T k).1.m∧(zK T k).1.m<4294967296)∧
 st=jY c (T.length:Int) o x (zK T k).1.s (zK T k).1.m v (zK T k).1.d (4004 -(pend.length:Int)) (k:Int) arr T.length out tk
theorem HE {cx:Cx} {B:dD→Bool×Int} (H:oY B) {T f:List Int} (l:AT f T) (V:T.length≤2500) (I: ∀x∈T,0≤x∧x<4294967296) {st:RS} {tk0:Nat} (R:st.ticks=tk0) (W:tk0+6 *T.length+20<cx.fuel) (G:KI T f tk0 0 st.tick):
  Wp cx B [.mk 5 [] [.mk 7 0 0 [] [.mk 6 14 0 [] [.mk 2 0 0 [110] [], .mk 2 0 0 [113] []]]] (.mk 5 [] [.mk 6 14 0 [] [.mk 2 0 0 [105] [], .mk 1 0 4004 [] []]] Gm []::zZ) []] st (fun s=>s.out=vN (Ya T)∧s.ticks≤tk0+6 *T.length+20):=by
 refine Wp.loop (KI T f tk0) (T.length+1) (by omega) G ?_ ?_
 rotate_left
 ·rintro _ ⟨c,o,x,v,y,u,arr,i,_,_,_,_,_,F,S,_,rfl⟩
  refine⟨?_, .nil ⟨?_,by show i≤_;omega⟩⟩
  ·exact H.stop (by omega)
  show u=_;rw[F rfl];unfold LK;rw[QV];rfl
 rintro k _ X ⟨c,o,x,v,y,u,arr,i,N,O,L,g,A,_,Y,b,rfl⟩;refine⟨1,H.go (by omega),by decide, ?_⟩
 have M:u.length≤60000:=by
  have:=congrArg List.length A;rw[aB,Gs (LK T k)]at this;unfold LK at this;have e:(zK T k).2.length=4 *((T++[0]).take k).length:=by unfold zK;exact vX _ _ _
  rw[aB,e,dV,aB]at this;simp only[Nr,aM,aU]at this;omega
 refine W8 H N O M (by omega) fun Q=>?_;rw[A];have U: ∀j,j<4000→arr[j]?=f[j]?:=g;obtain⟨d,hd⟩: ∃d,(T++[0])[k]?=some d:=⟨_,aF (by rw[aB,bS];omega)⟩
 have K:0≤d∧d<4294967296:=by
  have b:=aW hd;rw[eU,bE]at b;rcases b with h|h
  ·exact I d h
  omega
 have J:arr[(k:Int).toNat]?=some d:=by
  rw[cB,g k (by omega)];rcases pU k T.length with e|e
  ·rw[l.eq k e,←hd,fU e]
  obtain rfl:k=T.length:=by omega
  rw[l.z _ (bH _) (by omega),←hd];simp
 have p:=LJ hd;rw[←dQ zZ];refine E0 H L K J (fun j a=>by rw[g _ (by omega)];exact l.tab j a) b fun P C t=> .nil ⟨by show i+1+y.length<cx.fuel;omega,d,o,Q,P,vW (k:Int) d (zK T k).1,vN (LK T k),C,i+1+y.length+1,by simp [vW], ?_,t.len,fun j a=>by rw[t.low j a,g j a], ?_,fun e=>?_,by omega, ?_, ?_⟩
 ·intro j a
  have n:(vW (k:Int) d (zK T k).1).length=4:=rfl;rw[n];exact t.w j a
 ·unfold LK
  rw[p,←bT,Uj (Nr T++(zK T k).2)]
 ·rw[show k=T.length by omega]
 ·rw[p]
  exact UC b
 have n:(vW (k:Int) d (zK T k).1).length=4:=rfl;have D:gR ((k:Int)+1)=((k+1:Nat):Int):=by rw[eN (by omega)];omega
 have E:(4004 -((4:Nat):Int))=4000:=rfl;rw[n,E,D,p];rfl
theorem LV {cx:Cx} {g:dD→Bool×Int} (H:oY g) {t:dD} (A:cx.inp=t) (y:t.length≤2500) (F:7 *t.length+50<cx.fuel) {T:List Int} {E:Int} (f:yB t ([],0)=some (T,E)) (z: ∀x∈T,0≤x∧x<4294967296):
  Wp cx g gS (jY 0 0 0 0 0 0 0 0 0 0 (List.replicate 4096 0) 0 [] 0) (fun s=>s.out=vN (Ya T)∧s.ticks≤7 *t.length+50):=by
 have c:T.length=t.length:=by have:=P8 f;simpa using this
 unfold gS;refine HF H ?_;refine HD H A y (by omega) f fun o x arr b=>?_;have a:=b.len;unfold UZ;simp only[cZ,cC];refine H.st .num .num (by rw[a];decide) ?_;refine H.st .num (.op H.vn .num (TL _ _)) (by rw[dJ,a];decide) ?_;refine H.st .num .num (by rw[dJ,dJ,a];decide) ?_;refine H.wi .num ?_;refine H.ws .num ?_;rw[eN (by omega)];have p:(4001:Int).toNat=4001:=rfl;have u:(4002:Int).toNat=4002:=rfl;have v:(4003:Int).toNat=4003:=rfl;rw[p,u,v]
 have B: ∀j,j<4000→(((arr.set 4001 1145390419).set 4002 ((t.length:Int) *4)).set 4003 4224)[j]?=arr[j]?:=fun j d=>by
  rw[gX (by rw[dJ,dJ];omega),aJ (by omega),gX (by rw[dJ];omega),aJ (by omega),gX (by omega),aJ (by omega)]
 have C:PW (((arr.set 4001 1145390419).set 4002 ((t.length:Int) *4)).set 4003 4224) (Nr T):=by
  intro j d;simp only[Nr,aM,aU]at d⊢;rw[gX (by rw[dJ,dJ];omega),gX (by rw[dJ];omega),gX (by omega)];have :j=0∨j=1∨j=2:=by omega
  rcases this with rfl|rfl|rfl
  ·rfl
  ·rw[c,Int.mul_comm];rfl
  rfl
 refine(HE H b (by omega) z (tk0:=t.length+1) rfl (by omega) ⟨256,o,x,0,Nr T,[],((arr.set 4001 1145390419).set 4002 ((t.length:Int) *4)).set 4003 4224,t.length+1+1,by simp [Nr],C,by rw[dJ,dJ,dJ,a],B, ?_,fun e=>by omega,by omega,by rw[show zK T 0=(OT,[])by unfold zK;rw[gD];rfl];decide, ?_⟩).imp fun s D=>⟨D.1,by omega⟩
 ·have e:LK T 0=Nr T:=by unfold LK zK;rw[gD];show Nr T++[]=_;rw[dQ]
  rw[e,cC]
 have i:zK T 0=(OT,[]):=by unfold zK;rw[gD];rfl
 have k:(Nr T).length=3:=rfl;have l:(4004 -((3:Nat):Int))=4001:=rfl;have n:((0:Nat):Int)=0:=rfl;rw[i,k,l,n,c];rfl
def gB (o a b c:Int):Int:=o *16777216+a *1048576+b *65536+c
def zD (d X e:Int):List Int:=[gB 16 2 0 (d+1),gB 16 1 0 d,X,gB 17 1 0 (e+1)]
abbrev zl (d m:Int):Zs:=⟨d,1880096768,m⟩
theorem OS {q c d s m A:Int} (u:vF c=A) (v:0≤A∧A<4294967296) (l: ¬gR (c- 48)<10) (j: ¬c=32) (t: ¬gR (c- 97)<26) (n: ¬c=58) (o: ¬c=64) (p: ¬c=87) (k: ¬c=35) (hd:0≤d∧d≤200) (g:2≤A/536870912+d):
  vW q c ⟨d,s,m⟩=zD d (A % 536870912) (d+A/536870912 - 2)∧Bh q c ⟨d,s,m⟩=⟨d+A/536870912 - 2,s,m⟩:=by
 have a:gR (270532609+d)=gB 16 2 0 (d+1):=by rw[eN (by omega)];simp only[gB];omega
 have b:gR (269484032+d)=gB 16 1 0 d:=by rw[eN (by omega)];simp only[gB];omega
 have e:gR (d+A/536870912)=d+A/536870912:=eN (by omega);have f:gR (d+A/536870912 - 2)=d+A/536870912 - 2:=eN (by omega);have i:gR (286261249+(d+A/536870912 - 2))=gB 17 1 0 (d+A/536870912 - 2+1):=by rw[eN (by omega)];simp only[gB];omega
 simp only[vW,Bh,BV,zd,U5,BW,Md,A4,L8,A5,BQ,Me,Vf,aJ l,aJ j,aJ t,aJ n,aJ o,aJ p,aJ k,u,a,b,e,f,i,zD];trivial
theorem L9 {q c d s m:Int} (u:48≤c∧c≤57) (hd:0≤d∧d≤200) (v:0≤m∧m *10+(c- 48)<4294967296):
  vW q c ⟨d,s,m⟩=zD d (gB 3 1 2 0) d∧Bh q c ⟨d,s,m⟩=⟨d,s,m *10+(c- 48)⟩:=by
 have t:vF c=1125253120:=by
  have :c=48∨c=49∨c=50∨c=51∨c=52∨c=53∨c=54∨c=55∨c=56∨c=57:=by omega
  rcases this with rfl|rfl|rfl|rfl|rfl|rfl|rfl|rfl|rfl|rfl<;>decide
 have k:gR (c- 48)<10:=by rw[eN (by omega)];omega
 have p: ¬gR (c- 97)<26:=by show ¬IntKind.wrap .u32 _<26;rw[IntKind.wrap_u32];omega
 have i: ¬c=32:=by omega
 have l: ¬c=58:=by omega
 have n: ¬c=64:=by omega
 have o: ¬c=87:=by omega
 have j: ¬c=35:=by omega
 have a:gR (gR (m *10)+gR (c- 48))=m *10+(c- 48):=by rw[eN (x:=m *10) (by omega),eN (x:=c- 48) (by omega),eN (by omega)]
 have b:gR (270532609+d)=gB 16 2 0 (d+1):=by rw[eN (by omega)];simp only[gB];omega
 have e:gR (269484032+d)=gB 16 1 0 d:=by rw[eN (by omega)];simp only[gB];omega
 have f:gR (gR (d+1125253120/536870912)- 2)=d:=by rw[eN (x:=d+1125253120/536870912) (by omega),eN (by omega)];omega
 have g:gR (286261249+d)=gB 17 1 0 (d+1):=by rw[eN (by omega)];simp only[gB];omega
 simp only[vW,Bh,BV,zd,U5,BW,Md,A4,L8,A5,BQ,Me,Vf,bD k,aJ i,aJ p,aJ l,aJ n,aJ o,aJ j,t,a,b,e,f,g,zD];exact⟨rfl,trivial⟩
theorem BY {q d s m:Int} (hd:0≤d∧d≤200) (n:0≤m∧m<4294967296):
  vW q 32 ⟨d,s,m⟩=[gB 16 2 0 (d+1),gB 1 1 0 (m % 65536),gB 2 1 0 (m/65536),gB 17 1 0 (d+1+1)]∧Bh q 32 ⟨d,s,m⟩=⟨d+1,s,0⟩:=by
 have l:vF 32=1645215744:=by decide
 have j: ¬gR (32 - 48)<10:=by decide
 have k: ¬gR (32 - 97)<26:=by decide
 have a:gR (270532609+d)=gB 16 2 0 (d+1):=by rw[eN (by omega)];simp only[gB];omega
 have b:gR (17825792+m % 65536)=gB 1 1 0 (m % 65536):=by rw[eN (by omega)];simp only[gB];omega
 have c:gR (1645215744+m/65536)=1645215744+m/65536:=eN (by omega);have e:(1645215744+m/65536)/536870912=3:=by omega
 have g:(1645215744+m/65536) % 536870912=gB 2 1 0 (m/65536):=by simp only[gB];omega
 have i:gR (gR (d+3)- 2)=d+1:=by rw[eN (x:=d+3) (by omega),eN (by omega)];omega
 have f:gR (286261249+(d+1))=gB 17 1 0 (d+1+1):=by rw[eN (by omega)];simp only[gB];omega
 simp only[vW,Bh,BV,zd,U5,BW,Md,A4,L8,A5,BQ,Me,Vf,aJ j,aJ k,l,a,b,c,e,f,g,i,cQ,aJ (show ¬(32:Int)=87 by decide),aJ (show ¬(32:Int)=58 by decide),aJ (show ¬(32:Int)=64 by decide),aJ (show ¬(32:Int)=35 by decide)];trivial
theorem OR {q c d s m S g:Int} (z:97≤c∧c≤122) (hd:0≤d∧d≤200) (C:s=S+g *536870912) (y:0≤S∧S<536870000) (A:0≤g∧g≤3) (B:2≤g+d):
  vW q c ⟨d,s,m⟩=zD d (S+c) (d+g- 2)∧Bh q c ⟨d,s,m⟩=zl (d+g- 2) m:=by
 have o: ¬gR (c- 48)<10:=by rw[eN (by omega)];omega
 have v:gR (c- 97)<26:=by rw[eN (by omega)];omega
 have l: ¬c=32:=by omega
 have p: ¬c=58:=by omega
 have t: ¬c=64:=by omega
 have u: ¬c=87:=by omega
 have n: ¬c=35:=by omega
 have a:gR (s+c)=s+c:=eN (by omega);have b:gR (270532609+d)=gB 16 2 0 (d+1):=by rw[eN (by omega)];simp only[gB];omega
 have e:gR (269484032+d)=gB 16 1 0 d:=by rw[eN (by omega)];simp only[gB];omega
 have f:(s+c)/536870912=g:=by omega
 have k:(s+c) % 536870912=S+c:=by omega
 have i:gR (gR (d+g)- 2)=d+g- 2:=by rw[eN (x:=d+g) (by omega),eN (by omega)]
 have j:gR (286261249+(d+g- 2))=gB 17 1 0 (d+g- 2+1):=by rw[eN (by omega)];simp only[gB];omega
 simp only[vW,Bh,BV,zd,U5,BW,Md,A4,L8,A5,BQ,Me,Vf,aJ o,aJ l,bD v,aJ p,aJ t,aJ u,aJ n,a,b,e,f,i,j,k,zD];trivial
theorem QT {q c d m:Int} (a:97≤c∧c≤122) (hd:0≤d∧d≤200):vW q c (zl d m)=zD d (gB 16 1 0 c) (d+1)∧Bh q c (zl d m)=zl (d+1) m:=by
 have:=OR (q:=q) (m:=m) (S:=269484032) (g:=3) (s:=1880096768) a hd (by decide) (by decide) (by decide) (by omega);rw[show d+3 - 2=d+1 by omega,show 269484032+c=gB 16 1 0 c by simp only[gB];omega]at this;exact this
theorem QR {q c d m:Int} (a:97≤c∧c≤122) (hd:1≤d∧d≤200):vW q c ⟨d,824180736,m⟩=zD d (gB 17 2 0 c) (d- 1)∧Bh q c ⟨d,824180736,m⟩=zl (d- 1) m:=by
 have:=OR (q:=q) (m:=m) (S:=287309824) (g:=1) (s:=824180736) a (d:=d) (by omega) (by decide) (by decide) (by decide) (by omega);rw[show d+1 - 2=d- 1 by omega,show 287309824+c=gB 17 2 0 c by simp only[gB];omega]at this;exact this
theorem Vi {q d m:Int} (hd:0≤d∧d≤200):vW q 58 (zl d m)=zD d (gB 3 1 2 0) d∧Bh q 58 (zl d m)=⟨d,824180736,m⟩:=by
 have i:vF 58=1125253120:=by decide
 have f: ¬gR (58 - 48)<10:=by decide
 have g: ¬gR (58 - 97)<26:=by decide
 have a:gR (270532609+d)=gB 16 2 0 (d+1):=by rw[eN (by omega)];simp only[gB];omega
 have b:gR (269484032+d)=gB 16 1 0 d:=by rw[eN (by omega)];simp only[gB];omega
 have c:gR (gR (d+1125253120/536870912)- 2)=d:=by rw[eN (x:=d+1125253120/536870912) (by omega),eN (by omega)];omega
 have e:gR (286261249+d)=gB 17 1 0 (d+1):=by rw[eN (by omega)];simp only[gB];omega
 simp only[vW,Bh,BV,zd,U5,BW,Md,A4,L8,A5,BQ,Me,Vf,aJ f,aJ g,i,a,b,c,e,zD,cQ,aJ (show ¬(58:Int)=87 by decide),aJ (show ¬(58:Int)=32 by decide),aJ (show ¬(58:Int)=64 by decide),aJ (show ¬(58:Int)=35 by decide)];exact⟨rfl,trivial⟩
theorem QU {q d m:Int} (hd:0≤d∧d≤200):vW q 64 (zl d m)=[gB 16 2 0 (d+1),gB 25 2 0 4096,gB 16 1 2 128,gB 17 1 0 (d+1)]∧Bh q 64 (zl d m)=zl d m:=by
 have g:vF 64=1343357056:=by decide
 have e: ¬gR (64 - 48)<10:=by decide
 have f: ¬gR (64 - 97)<26:=by decide
 have a:gR (270532609+d)=gB 16 2 0 (d+1):=by rw[eN (by omega)];simp only[gB];omega
 have b:gR (gR (d+1343357056/536870912)- 2)=d:=by rw[eN (x:=d+1343357056/536870912) (by omega),eN (by omega)];omega
 have c:gR (286261249+d)=gB 17 1 0 (d+1):=by rw[eN (by omega)];simp only[gB];omega
 simp only[zl,vW,Bh,BV,zd,U5,Md,A4,L8,A5,BQ,Me,Vf,aJ e,aJ f,g,a,b,c,cQ,aJ (show ¬(64:Int)=87 by decide),aJ (show ¬(64:Int)=32 by decide),aJ (show ¬(64:Int)=58 by decide),aJ (show ¬(64:Int)=35 by decide)];exact⟨rfl,trivial⟩
theorem B1 {q d m:Int} (hd:2≤d∧d≤200):vW q 35 (zl d m)=[gB 16 2 0 (d+1),gB 16 1 0 d,gB 25 1 0 4096,gB 17 2 1 128]∧Bh q 35 (zl d m)=zl (d- 2) m:=by
 have g:vF 35=420483072:=by decide
 have e: ¬gR (35 - 48)<10:=by decide
 have f: ¬gR (35 - 97)<26:=by decide
 have a:gR (270532609+d)=gB 16 2 0 (d+1):=by rw[eN (by omega)];simp only[gB];omega
 have b:gR (269484032+d)=gB 16 1 0 d:=by rw[eN (by omega)];simp only[gB];omega
 have c:gR (gR (d+420483072/536870912)- 2)=d- 2:=by rw[eN (x:=d+420483072/536870912) (by omega),eN (by omega)];omega
 simp only[zl,vW,Bh,BV,zd,U5,BW,Md,A4,L8,A5,BQ,Me,Vf,aJ e,aJ f,g,a,b,c,cQ,aJ (show ¬(35:Int)=87 by decide),aJ (show ¬(35:Int)=32 by decide),aJ (show ¬(35:Int)=58 by decide),aJ (show ¬(35:Int)=64 by decide)];exact⟨rfl,trivial⟩
theorem Vh {q d m:Int} (l:0≤q∧q≤3000) (hd:0≤d∧d≤200):vW q 87 (zl d m)=zD d (gB 1 1 0 (4 *q)) (d+1)∧Bh q 87 (zl d m)=zl (d+1) m:=by
 have a: ¬gR (87 - 48)<10:=by decide
 have b: ¬gR (87 - 97)<26:=by decide
 have e:gR (270532609+d)=gB 16 2 0 (d+1):=by rw[eN (by omega)];simp only[gB];omega
 have f:gR (269484032+d)=gB 16 1 0 d:=by rw[eN (by omega)];simp only[gB];omega
 have c:gR (1628438528+gR (q *4))=1628438528+q *4:=by rw[eN (x:=q *4) (by omega),eN (by omega)]
 have g:(1628438528+q *4)/536870912=3:=by omega
 have k:(1628438528+q *4) % 536870912=gB 1 1 0 (4 *q):=by simp only[gB];omega
 have i:gR (gR (d+3)- 2)=d+1:=by rw[eN (x:=d+3) (by omega),eN (by omega)];omega
 have j:gR (286261249+(d+1))=gB 17 1 0 (d+1+1):=by rw[eN (by omega)];simp only[gB];omega
 simp only[*,zl,vW,Bh,BV,zd,U5,BW,Md,A5,BQ,Me,Vf,aJ a,aJ b,zD,cQ,aJ (show ¬(87:Int)=58 by decide),aJ (show ¬(87:Int)=32 by decide),aJ (show ¬(87:Int)=64 by decide),aJ (show ¬(87:Int)=35 by decide)];trivial
theorem Na {q d m n:Int} (e:0≤n∧n≤3000) (hd:1≤d∧d≤200):vW q (857735172+4 *n) (zl d m)=zD d (gB 19 2 0 (4 *n+4)) (d- 1)∧Bh q (857735172+4 *n) (zl d m)=zl (d- 1) m:=by
 have c:vF (857735172+4 *n)=857735172+4 *n:=by
  have a:Ge (857735172+4 *n)=857735172+4 *n:=aJ (by omega);have b:Ba (857735172+4 *n)=857735172+4 *n:=by unfold Ba;rw[a,aJ (by omega)]
  unfold vF;rw[b,aJ (by omega)]
 have:=OS (q:=q) (d:=d) (s:=1880096768) (m:=m) c (by omega) (by rw[eN (by omega)];omega) (by omega) (by rw[eN (by omega)];omega) (by omega) (by omega) (by omega) (by omega) (by omega) (by omega);rw[show(857735172+4 *n)/536870912=1 by omega,show d+1 - 2=d- 1 by omega,show(857735172+4 *n) % 536870912=gB 19 2 0 (4 *n+4)by simp only[gB];omega]at this;exact this
theorem pJ {c A X g:Int} (f:vF c=A) (i:A=X+g *536870912) (k:(0≤X∧X<536870912)∧(0≤g∧g≤3)) (b: ¬gR (c- 48)<10) (e: ¬gR (c- 97)<26) (a: ¬c=32∧ ¬c=58∧ ¬c=64∧ ¬c=87∧ ¬c=35) {q d m:Int} (hd:0≤d∧d≤200) (j:2≤g+d):vW q c (zl d m)=zD d X (d+g- 2)∧Bh q c (zl d m)=zl (d+g- 2) m:=by
 have:=OS (q:=q) (d:=d) (s:=1880096768) (m:=m) f (by omega) b a.1 e a.2.1 a.2.2.1 a.2.2.2.1 a.2.2.2.2 hd (by omega);rw[show A/536870912=g by omega,show A % 536870912=X by omega]at this;exact this
theorem QS {o:Int} (h:4≤o∧o≤15): ∃c:UInt8,Go.Proofs.YtaecpjgmcffliaaGreatDoor.opS[(o- 4).toNat]?=some c∧ ∀{q d m:Int},1≤d∧d≤200→vW q (c.toNat:Int) (zl d m)=zD d (gB o 1 1 2) (d- 1)∧Bh q (c.toNat:Int) (zl d m)=zl (d- 1) m:=by
 have :o=4∨o=5∨o=6∨o=7∨o=8∨o=9∨o=10∨o=11∨o=12∨o=13∨o=14∨o=15:=by omega
 have i: ∀{o:Int} {c:UInt8},vF (c.toNat:Int)=gB o 1 1 2+1 *536870912→0≤gB o 1 1 2∧gB o 1 1 2<536870912→ ¬gR ((c.toNat:Int)- 48)<10→ ¬gR ((c.toNat:Int)- 97)<26→(¬(c.toNat:Int)=32∧ ¬(c.toNat:Int)=58∧ ¬(c.toNat:Int)=64∧ ¬(c.toNat:Int)=87∧ ¬(c.toNat:Int)=35)→ ∀{q d m:Int},1≤d∧d≤200→vW q (c.toNat:Int) (zl d m)=zD d (gB o 1 1 2) (d- 1)∧Bh q (c.toNat:Int) (zl d m)=zl (d- 1) m:=by
  intro o c a b e f g q d m hd;have:=pJ (q:=q) (m:=m) (d:=d) a rfl ⟨b,by decide⟩ e f g (by omega) (by omega);rw[show d+1 - 2=d- 1 by omega]at this;exact this
 rcases this with rfl|rfl|rfl|rfl|rfl|rfl|rfl|rfl|rfl|rfl|rfl|rfl<;>exact⟨_,rfl,i (by decide) (by decide) (by decide) (by decide) (by decide)⟩
mutual
def cE (rs:dD→Bool×Int):Ex→List AV
 | .mk k o n s l=>[.int .i64 k, .int .i64 o, .int .u32 n, .bool (rs s).1, .int .i64 (rs s).2, .isl 6 (YB rs l)]
def YB (rs:dD→Bool×Int):List Ex→List (List AV)
 |[]=>[]
 |e::l=>cE rs e::YB rs l
end
mutual
def cS (rs:dD→Bool×Int):Sm→List AV
 | .mk k s l t u=>[.int .i64 k, .bool (rs s).1, .int .i64 (rs s).2, .isl 6 (l.map (cE rs)), .isl 6 (XU rs t), .isl 6 (XU rs u)]
def XU (rs:dD→Bool×Int):List Sm→List (List AV)
 |[]=>[]
 |e::l=>cS rs e::XU rs l
end
def Cf.row (f:Cf):List AV:=[.int .i64 f.words, .isl 6 (f.body.map (cS f.res))]
def gI (n:Int):List AV:=[.int .u32 n]
def rG (c:UInt8):List AV:=[.int .u8 c.toNat]
def fR:List Nat→List (List Int)→List (List AV)
 |b::bs,l::ls=>[.osl 1 b l.length]::fR bs ls
 |_,_=>[]
theorem wZ: ∀(a:List Nat) (c:List (List Int)) (i:Nat) b l,a[i]?=some b→c[i]?=some l→(fR a c)[i]?=some [.osl 1 b l.length]
 |[],_,i,b,l,h,_=>by simp at h
 |b0::a,[],i,b,l,_,h=>by simp at h
 |b0::a,l0::c,0,b,l,h,h'=>by
  simp only[eS,Option.some.injEq]at h h';subst h;subst h';simp [fR]
 |b0::a,l0::c,i+1,b,l,h,h'=>by
  simp only[kU]at h h';simp only[fR,kU];exact wZ a c i b l h h'
theorem wY: ∀(a:List Nat) (c:List (List Int)) (i:Nat) (f:List Int→List Int),(∀l,(f l).length=l.length)→fR a (c.modify i f)=fR a c
 |[],c,i,f,_=>by simp [fR]
 |b::a,[],i,f,_=>by simp [fR]
 |b::a,l::c,0,f,h=>by simp [fR,h]
 |b::a,l::c,i+1,f,h=>by simp [fR,wY a c i f h]
theorem Ez: ∀(c:List Nat) (a:List (List Int)),c.length=a.length→(fR c a).length=a.length
 |[],[],_=>rfl
 |b::c,l::a,h=>by simp [fR,Ez c a (by simpa using h)]
 |[],_::_,h=>by simp at h
 |_::_,[],h=>by simp at h
structure nV (cx:Cx) (br bv:Nat) (abs:List Nat) (st:RS) (vo:AV) (H:Hp):Prop where
 r:H br=some (.rows 8 [[.isl 2 (cx.funs.map Cf.row), .osl 1 bv st.vars.length, .isl 1 (fR abs st.arrs), .str cx.inp, .int .i64 st.read,vo, .int .i64 st.ticks, .int .i64 cx.fuel]])
 v:H bv=some (.rows 1 (st.vars.map gI))
 al:abs.length=st.arrs.length
 a: ∀(i:Nat) b l,abs[i]?=some b→st.arrs[i]?=some l→H b=some (.rows 1 (l.map gI))
 nd:abs.Nodup
 va:bv∉abs
 o:eB 1 vo (st.out.map rG) H
 ov:off vo bv
 oa: ∀b∈abs,off vo b
 uv: ∀x∈st.vars,dR x
 ua: ∀l∈st.arrs,l.length≤4096∧ ∀x∈l,dR x
 ub:st.out.length≤65536
 rd:st.read≤cx.inp.length
 tk:st.ticks≤cx.fuel
def kJ (br bv:Nat) (abs:List Nat) (vo vo':AV) (H H':Hp):Prop:= ∀b o,H b=some o→b≠br→b≠bv→b∉abs→off vo b→H' b=some o∧off vo' b
def rM (br bv:Nat) (abs:List Nat) (vo vo':AV) (bo:Nat) (H H':Hp):Prop:= ∀b o,H b=some o→b≠br→b≠bv→b∉abs→off vo b→b≠bo→H' b=some o∧off vo' b
structure Be (bv:Nat) (abs:List Nat) (vo:AV) (b:Nat) (rows:List (List AV)) (H:Hp):Prop where
 h:H b=some (.rows 1 rows)
 nv:b≠bv
 na:b∉abs
 nf:off vo b
theorem kJ.refl (br bv:Nat) (abs:List Nat) (vo:AV) (H:Hp):kJ br bv abs vo vo H H:=fun _ _ h _ _ _ a=>⟨h,a⟩
theorem kJ.trans {br bv:Nat} {abs:List Nat} {vo e f:AV} {H H1 H2:Hp} (h:kJ br bv abs vo e H H1) (j:kJ br bv abs e f H1 H2):kJ br bv abs vo f H H2:=fun b o l a c d k=>by
 obtain⟨g,i⟩:=h b o l a c d k;exact j b o g a c d i
theorem kJ.s {br bv:Nat} {abs:List Nat} {vo a:AV} {H H1:Hp} (h:kJ br bv abs vo a H H1) (c:Nat):rM br bv abs vo a c H H1:=fun b o i d e f g _=>h b o i d e f g
theorem rM.trans {br bv a:Nat} {abs:List Nat} {vo g i:AV} {H H1 H2:Hp} (h:rM br bv abs vo g a H H1) (l:rM br bv abs g i a H1 H2):rM br bv abs vo i a H H2:=fun b o p c d e n f=>by
 obtain⟨j,k⟩:=h b o p c d e n f;exact l b o j c d e k f
theorem kJ.updN {br bv:Nat} {abs:List Nat} {vo d:AV} {H H1:Hp} (h:kJ br bv abs vo d H H1) {b:Nat} (n:H b=none) (o:Option iF):kJ br bv abs vo d H (Go.Al.upd H1 b o):=fun c p a i j k l=>by
 obtain⟨f,g⟩:=h c p a i j k l;have :c≠b:=fun e=>by rw[e,n]at a;cases a
 exact⟨by rw[cH _ _ this];exact f,g⟩
theorem rM.new {br bv a:Nat} {abs:List Nat} {vo d:AV} {H H1:Hp} {o:Option iF} (k:H a=none) (h:rM br bv abs vo d a (Go.Al.upd H a o) H1):kJ br bv abs vo d H H1:=fun b l c f g i j=>by
 have :b≠a:=fun e=>by rw[e,k]at c;cases c
 exact h b l (by rw[cH _ _ this];exact c) f g i j this
theorem kJ.new {br bv a:Nat} {abs:List Nat} {vo b:AV} {H H1:Hp} {o:Option iF} (c:H a=none) (h:kJ br bv abs vo b (Go.Al.upd H a o) H1):kJ br bv abs vo b H H1:=rM.new c (h.s a)
section
variable {cx : Cx} {br bv : Nat} {abs : List Nat} {st : RS} {vo : AV} {H : Hp}
theorem nV.nbr (h:nV cx br bv abs st vo H) {b:Nat} {l:List (List AV)} (a:H b=some (.rows 1 l)):b≠br:=fun e=>by rw[e,h.r]at a;cases a
theorem Be.keep {b:Nat} {rows:List (List AV)} (h:Be bv abs vo b rows H) (f:nV cx br bv abs st vo H) {a:AV} {H':Hp} (e:kJ br bv abs vo a H H'):Be bv abs a b rows H':=by
 obtain⟨c,d⟩:=e b _ h.h (f.nbr h.h) h.nv h.na h.nf;exact⟨c,h.nv,h.na,d⟩
theorem nV.abs_some (h:nV cx br bv abs st vo H) {b:Nat} (d:b∈abs):H b≠none:=by
 obtain⟨i,c⟩:=jB d;have e:i<st.arrs.length:=by have:=(bF.1 c).1;rw[←h.al];exact this
 rw[h.a i b _ c (aF e)];exact bZ _
theorem nV.new (h:nV cx br bv abs st vo H) {b:Nat} (c:H b=none) (o:Option iF):nV cx br bv abs st vo (upd H b o):=by
 have j:br≠b:=fun e=>by have:=h.r;rw[e,c]at this;cases this
 have k:bv≠b:=fun e=>by have:=h.v;rw[e,c]at this;cases this
 refine {h with r:=by rw[cH _ _ j];exact h.r,v:=by rw[cH _ _ k];exact h.v,a:=fun i d l f g=>?_,o:=h.o.upd c o};have n:d≠b:=fun e=>h.abs_some (aW f) (by rw[e,c]);rw[cH _ _ n];exact h.a i d l f g
theorem nV.fresh (h:nV cx br bv abs st vo H) {b:Nat} (a:H b=none) (rows:List (List AV)):Be bv abs vo b rows (upd H b (some (.rows 1 rows))):=
 ⟨bC _ _ _,(fun e=>by have:=h.v;rw[←e,a]at this;cases this),(fun e=>h.abs_some e a),h.o.new a⟩
theorem Be.new {b a:Nat} {rows:List (List AV)} (h:Be bv abs vo b rows H) (c:H a=none) (o:Option iF):Be bv abs vo b rows (upd H a o):=
 ⟨by rw[cH _ _ (fun e=>by have:=h.h;rw[e,c]at this;cases this)];exact h.h,h.nv,h.na,h.nf⟩
theorem nV.own (h:nV cx br bv abs st vo H) {b:Nat} {rows:List (List AV)} (c:Be bv abs vo b rows H) (o:Option iF):nV cx br bv abs st vo (upd H b o):=by
 have j:br≠b:=fun e=>h.nbr c.h e.symm;have k:bv≠b:=fun e=>c.nv e.symm;refine {h with r:=by rw[cH _ _ j];exact h.r,v:=by rw[cH _ _ k];exact h.v,a:=fun i d l f g=>?_,o:=h.o.off c.nf o};have n:d≠b:=fun e=>c.na (e▸aW f);rw[cH _ _ n];exact h.a i d l f g
theorem Be.set {b:Nat} {rows a:List (List AV)} (h:Be bv abs vo b rows H):Be bv abs vo b a (upd H b (some (.rows 1 a))):=⟨bC _ _ _,h.nv,h.na,h.nf⟩
theorem rM.set {c:AV} {b:Nat} {H':Hp} (h:rM br bv abs vo c b H H') (o:Option iF):rM br bv abs vo c b H (upd H' b o):=fun d n l g i j k a=>by
 obtain⟨e,f⟩:=h d n l g i j k a;exact⟨by rw[cH _ _ a];exact e,f⟩
theorem nV.same {H':Hp} (h:nV cx br bv abs st vo H) (a: ∀b,H' b=H b):nV cx br bv abs st vo H':=by
 have :H'=H:=funext a;rw[this];exact h
theorem nV.turn (h:nV cx br bv abs st vo H) {st':RS} (f:st'.vars=st.vars) (b:st'.arrs=st.arrs) (e:st'.out=st.out) (n:st'.read≤cx.inp.length) (p:st'.ticks≤cx.fuel):
  nV cx br bv abs st' vo (upd H br (some (.rows 8 [[.isl 2 (cx.funs.map Cf.row), .osl 1 bv st'.vars.length, .isl 1 (fR abs st'.arrs), .str cx.inp, .int .i64 st'.read,vo, .int .i64 st'.ticks, .int .i64 cx.fuel]]))):=by
 have t:bv≠br:=h.nbr h.v;have k:off vo br:=h.o.offsz h.r (by decide);refine⟨bC _ _ _,by rw[cH _ _ t,f];exact h.v,by rw[b];exact h.al,fun i g l j c=>?_,h.nd,h.va,by rw[e];exact h.o.off k _,h.ov,h.oa,by rw[f];exact h.uv,by rw[b];exact h.ua,by rw[e];exact h.ub,n,p⟩;rw[b]at c;have d:=h.a i g l j c;rw[cH _ _ (h.nbr d)];exact d
theorem kJ.run (o:Option iF):kJ br bv abs vo vo H (upd H br o):=fun d e c a _ _ b=>⟨by rw[cH _ _ a];exact c,b⟩
theorem kJ.vars (o:Option iF):kJ br bv abs vo vo H (upd H bv o):=fun d e c _ a _ b=>⟨by rw[cH _ _ a];exact c,b⟩
theorem kJ.arr {b:Nat} (d:b∈abs) (o:Option iF):kJ br bv abs vo vo H (upd H b o):=fun g i f _ _ a c=>⟨by rw[cH _ _ (fun e=>a (by rw[e];exact d))];exact f,c⟩
theorem rB (l:List Int) (i:Nat) (v:Int):(l.map gI).set i [.int .u32 v]=(l.set i v).map gI:=by rw[List.map_set];rfl
theorem nV.setV (h:nV cx br bv abs st vo H) (i:Nat) (v:Int) (g:dR v):nV cx br bv abs {st with vars:=st.vars.set i v} vo (upd H bv (some (.rows 1 ((st.vars.map gI).set i [.int .u32 v])))):=by
 have j:br≠bv:=fun e=>h.nbr h.v e.symm;refine⟨?_,by rw[bC,rB],h.al,fun i d l c f=>?_,h.nd,h.va,h.o.off h.ov _,h.ov,h.oa,fun x b=>?_,h.ua,h.ub,h.rd,h.tk⟩
 ·rw[cH _ _ j,dJ];exact h.r
 ·rw[cH _ _ (fun e=>h.va (by rw[←e];exact aW c))];exact h.a i d l c f
 rcases pI b with b|rfl
 ·exact h.uv x b
 exact g
theorem nV.setA (h:nV cx br bv abs st vo H) {i:Nat} {b:Nat} {l:List Int} (g:abs[i]?=some b) (z:st.arrs[i]?=some l) (j:Nat) (v:Int) (D:dR v):nV cx br bv abs {st with arrs:=st.arrs.modify i fun l=>l.set j v} vo (upd H b (some (.rows 1 ((l.map gI).set j [.int .u32 v])))):=by
 have A:=aW g;have E:br≠b:=fun e=>h.nbr (h.a i b l g z) e.symm;have F:bv≠b:=fun e=>h.va (e▸A);refine⟨?_,by rw[cH _ _ F];exact h.v,by simp only[List.length_modify];exact h.al,fun d y n p c=>?_,h.nd,h.va,h.o.off (h.oa b A) _,h.ov,h.oa,h.uv,fun n B=>?_,h.ub,h.rd,h.tk⟩
 ·rw[cH _ _ E]
  simp only;rw[wY abs st.arrs i _ (fun l=>by simp)];exact h.r
 ·simp only[Uy]at c
  by_cases t:i=d
  ·subst t
   rw[g]at p;cases p;rw[z]at c;have c:l.set j v=n:=by simpa using c
   subst c;rw[bC,rB]
  have c:st.arrs[d]?=some n:=by simpa [aJ t]using c
  have :y≠b:=fun e=>by
   subst e;exact t ((List.getElem?_inj (bF.1 g).1 h.nd).1 (g.trans p.symm))
  rw[cH _ _ this];exact h.a d y n p c
 obtain⟨d,k⟩:=jB B;rw[Uy]at k
 obtain⟨f,C,rfl⟩: ∃f,st.arrs[d]?=some f∧(if i=d then f.set j v else f)=n:=by
  cases hq:st.arrs[d]? with
  |none=>rw[hq]at k;simp at k
  |some f=>rw[hq]at k;exact⟨f,rfl,by simpa using k⟩
 have:=h.ua f (aW C);split
 ·refine⟨by simpa using this.1,fun x u=>?_⟩
  rcases pI u with u|rfl
  ·exact this.2 x u
  exact D
 exact this
end
structure OO (cx:Cx):Prop where
 inp:cx.inp.length≤2000000
 fuel:cx.fuel<9223372036854775808
 words: ∀f∈cx.funs,f.words≤3000000
 body: ∀f∈cx.funs,yZ f.body
theorem RF {a b:Int} (d:dR a) (e:dR b) (j: ¬b=0):dR (a.tmod b):=by
 obtain⟨c,f⟩:=d;obtain⟨g,i⟩:=e;have:=Int.tmod_nonneg b c;have:=Int.tmod_lt_of_pos a (show 0<b by omega);exact⟨by omega,by omega⟩
theorem QX (n:Int):dR (IntKind.wrap .u32 n):=by
 have h:IntKind.wrap .u32 n=n % 4294967296:=by simp [IntKind.wrap,IntKind.signed,IntKind.bits]
 rw[h];exact⟨Int.emod_nonneg _ (by decide),Int.emod_lt_of_pos _ (by decide)⟩
theorem US {a:Int} (d:dR a) (k:Nat):dR (a.fdiv (2^k)):=by
 obtain⟨b,f⟩:=d;have e:(0:Int)<2^k:=Int.pow_pos (by decide);rw[pA _ (by omega)];have c:=Int.ediv_nonneg b (Int.le_of_lt e);have g:=Int.ediv_le_self (2^k) b;exact⟨c,by omega⟩
theorem UD {c:Prop} [Decidable c] {x y:Int} (h:c→dR x) (b: ¬c→dR y):dR (if c then x else y):=by
 by_cases a:c
 ·rw[bD a];exact h a
 rw[aJ a];exact b a
theorem Kx (op:Int) {a b:Int} (c:dR a) (d:dR b):dR (eQ op a b).1:=by
 unfold eQ;generalize min b.toNat 32=k;have z:dR 0:=by simp [dR]
 have o:dR 1:=by simp [dR]
 simp only[apply_ite Prod.fst]
 repeat' refine UD (fun _=>?_) fun _=>?_
 all_goals first|exact QX _|exact z|exact o|exact RF c d ‹_› |exact US c _
structure Mc where
 pc:Int
 r1:Int
 r2:Int
 mem:List Int
 rd:Nat
 out:dD
 st:Nat
def Mc.r (s:Mc) (a:Int):Int:=if a=1 then s.r1 else if a=2 then s.r2 else 0
def Mc.nx (s:Mc):Mc:={s with pc:=s.pc+1,st:=s.st+1}
def Mc.to (s:Mc) (p:Int):Mc:={s with pc:=p,st:=s.st+1}
def Mc.stp (s:Mc):Mc:={s with st:=s.st+1}
def Mc.set (s:Mc) (a x:Int):Option (Int×Mc):=if a=1 then some (0,{s.nx with r1:=x})else if a=2 then some (0,{s.nx with r2:=x})else none
def uD (inp:dD) (o a b c:Int) (s:Mc):Option (Int×Mc):=
 if o=1 then s.set a c
 else if o=2 then s.set a (s.r a % 65536+c *65536)
 else if o=3 then s.set a (s.r b)
 else if 4≤o∧o≤15 then(if(eQ o (s.r b) (s.r c)).2=0 then s.set a (eQ o (s.r b) (s.r c)).1 else some (2,s.stp))
 else if o=16 then(match s.mem[(gR (s.r b+c)).toNat]? with
  |some x=>s.set a x
  |none=>none)
 else if o=17 then(if(gR (s.r b+c)).toNat<s.mem.length then some (0,{s.nx with mem:=s.mem.set (gR (s.r b+c)).toNat (s.r a)})else none)
 else if o=19 then some (0,if s.r a=0 then s.to c else s.nx)
 else if o=22 then some (0,s.to (s.r a))
 else if o=23 then(match inp[s.rd]? with
  |some x=>({s with rd:=s.rd+1}:Mc).set a (x.toNat:Int)
  |none=>s.set a 256)
 else if o=24 then(if 65536≤s.out.length then some (4,s.stp)else some (0,{s.nx with out:=s.out++[UInt8.ofNat (IntKind.wrap .u8 (s.r a)).toNat]}))
 else if o=25 then(if s.r a<c then some (0,s.nx)else some (3,s.stp))
 else if o=26 then some (1,s.stp)
 else none
def nC (W:List Int) (inp:dD) (s:Mc):Option (Int×Mc):=
 if s.pc<0 then none else match W[s.pc.toNat]? with
  |some w=>uD inp (w/16777216) (w/1048576 % 16) (w/65536 % 16) (w % 65536) s
  |none=>none
inductive Go (W:List Int) (inp:dD):Nat→Mc→Mc→Prop where
 |nil (s:Mc):Go W inp 0 s s
 |step {k:Nat} {s s1 s2:Mc} (h:nC W inp s=some (0,s1)) (g:Go W inp k s1 s2):Go W inp (k+1) s s2
theorem Go.app {W:List Int} {inp:dD} {k j:Nat} {s s1 s2:Mc} (h:Go W inp k s s1) (g:Go W inp j s1 s2):Go W inp (k+j) s s2:=by
 induction h with
 |nil s=>rw[bV];exact g
 |step h _ ih=>rw[Nat.add_right_comm];exact .step h (ih g)
theorem Go.one {W:List Int} {inp:dD} {s s1:Mc} (h:nC W inp s=some (0,s1)):Go W inp 1 s s1:= .step h (.nil _)
def Fin (W:List Int) (inp:dD) (k:Nat) (s:Mc) (e:Int) (s':Mc):Prop:= ∃s1,Go W inp k s s1∧nC W inp s1=some (e,s')
theorem Fin.after {W:List Int} {inp:dD} {k j:Nat} {s s1 s':Mc} {e:Int} (h:Go W inp k s s1) (g:Fin W inp j s1 e s'):Fin W inp (k+j) s e s':=by
 obtain⟨c,a,b⟩:=g;exact⟨c,h.app a,b⟩
theorem mO {W:List Int} {inp:dD} {s:Mc} {o a b c:Int} {p:Nat} (e:s.pc=(p:Int)) (f:W[p]?=some (gB o a b c)) (h:(0≤o∧o≤200)∧(0≤a∧a≤15)∧(0≤b∧b≤15)∧(0≤c∧c≤65535)):nC W inp s=uD inp o a b c s:=by
 have g:gB o a b c/16777216=o:=by simp only[gB];omega
 have i:gB o a b c/1048576 % 16=a:=by simp only[gB];omega
 have j:gB o a b c/65536 % 16=b:=by simp only[gB];omega
 have k:gB o a b c % 65536=c:=by simp only[gB];omega
 unfold nC;rw[aJ (by omega),e,cB,f];simp only[*]
def yD (W:List Int) (k:Nat) (l:List Int):Prop:= ∀i,i<l.length→W[k+i]?=l[i]?
theorem yD.app {W:List Int} {k:Nat} {a b:List Int} (h:yD W k (a++b)):yD W k a∧yD W (k+a.length) b:=by
 refine⟨fun i c=>?_,fun i c=>?_⟩
 ·rw[h i (by rw[aB];omega),fU c]
 rw[gA,h (a.length+i) (by rw[aB];omega),gZ (by omega),gY]
def Mc.m (s:Mc) (j:Nat):Int:=(s.mem[j]?).getD 0
theorem Mc.m_some {s:Mc} {j:Nat} {v:Int} (h:s.mem[j]?=some v):s.m j=v:=by unfold Mc.m;rw[h];rfl
theorem Mc.m_get {s:Mc} {j:Nat} (h:j<s.mem.length):s.mem[j]?=some (s.m j):=by unfold Mc.m;rw[aF h];rfl
section
variable {W : List Int} {inp : dD} {s : Mc} {q d : Nat}
theorem Q6 {p x a:Nat} (c:s.pc=(p:Int)) (f:W[p]?=some (gB 16 a 0 x)) (b:a=1∨a=2) (i:x<300) (g:s.mem.length=4224):nC W inp s=some (0,if a=1 then {s.nx with r1:=s.m x}else {s.nx with r2:=s.m x}):=by
 rw[mO c f (by omega)];have e:gR (s.r 0+(x:Int))=(x:Int):=by show gR (0+(x:Int))=_;rw[Int.zero_add,eN (by omega)]
 simp only[uD,e,cB,Mc.m_get (s:=s) (show x<s.mem.length by omega)];rcases b with rfl|rfl<;>rfl
theorem VS {p x a:Nat} (b:s.pc=(p:Int)) (c:W[p]?=some (gB 17 a 0 x)) (f:a≤2) (i:x<300) (g:s.mem.length=4224):nC W inp s=some (0,{s.nx with mem:=s.mem.set x (s.r a)}):=by
 rw[mO b c (by omega)];have e:gR (s.r 0+(x:Int))=(x:Int):=by show gR (0+(x:Int))=_;rw[Int.zero_add,eN (by omega)]
 simp [uD,e,show x<s.mem.length by omega]
theorem Tu (j:s.pc=((4 *q:Nat):Int)) (g:W[4 *q]?=some (gB 16 2 0 ((d+1:Nat):Int))) (i:W[4 *q+1]?=some (gB 16 1 0 (d:Int))) (hd:d≤200) (f:s.mem.length=4224):
  Go W inp 2 s {s with pc:=((4 *q+2:Nat):Int),r1:=s.m d,r2:=s.m (d+1),st:=s.st+2}:=by
 have c:=Q6 (inp:=inp) (a:=2) j g (.inr rfl) (by omega) f;rw[aJ (by decide)]at c;have b:=Q6 (W:=W) (inp:=inp) (s:={s.nx with r2:=s.m (d+1)}) (p:=4 *q+1) (a:=1) (x:=d) (by show s.pc+1=_;omega) i (.inl rfl) (by omega) f;rw[bD rfl]at b
 have e:({({s.nx with r2:=s.m (d+1)}:Mc).nx with r1:=({s.nx with r2:=s.m (d+1)}:Mc).m d}:Mc)={s with pc:=((4 *q+2:Nat):Int),r1:=s.m d,r2:=s.m (d+1),st:=s.st+2}:=by
  show Mc.mk (s.pc+1+1) _ _ _ _ _ _=_;rw[show s.pc+1+1=((4 *q+2:Nat):Int)by omega];rfl
 rw[e]at b;exact .step c (.one b)
theorem Tq {e:Nat} (f:s.pc=((4 *q+3:Nat):Int)) (b:W[4 *q+3]?=some (gB 17 1 0 ((e+1:Nat):Int))) (i:e≤200) (c:s.mem.length=4224):
  Go W inp 1 s {s with pc:=((4 *(q+1):Nat):Int),mem:=s.mem.set (e+1) s.r1,st:=s.st+1}:=by
 have g:=VS (inp:=inp) (a:=1) (x:=e+1) f b (by decide) (by omega) c
 have e:({s.nx with mem:=s.mem.set (e+1) (s.r ((1:Nat):Int))}:Mc)={s with pc:=((4 *(q+1):Nat):Int),mem:=s.mem.set (e+1) s.r1,st:=s.st+1}:=by
  show Mc.mk (s.pc+1) _ _ _ _ _ _=_;rw[show s.pc+1=((4 *(q+1):Nat):Int)by omega];rfl
 rw[e]at g;exact .one g
def Mc.hd (s:Mc) (q d:Nat):Mc:={s with pc:=((4 *q+2:Nat):Int),r1:=s.m d,r2:=s.m (d+1),st:=s.st+2}
theorem Qh {k e:Nat} {X:Int} (h:yD W k (zD (d:Int) X (e:Int))):W[k]?=some (gB 16 2 0 ((d+1:Nat):Int))∧W[k+1]?=some (gB 16 1 0 (d:Int))∧W[k+2]?=some X∧W[k+3]?=some (gB 17 1 0 ((e+1:Nat):Int)):=
 ⟨h 0 (by simp [zD]),h 1 (by simp [zD]),h 2 (by simp [zD]),h 3 (by simp [zD])⟩
theorem It {o a b c:Int} {e:Nat} {s2:Mc} (B:yD W (4 *q) (zD (d:Int) (gB o a b c) (e:Int))) (A:(0≤o∧o≤200)∧(0≤a∧a≤15)∧(0≤b∧b≤15)∧(0≤c∧c≤65535)) (y:s.pc=((4 *q:Nat):Int)) (hd:d≤200) (u:e≤200) (v:s.mem.length=4224)
  (t:uD inp o a b c (s.hd q d)=some (0,s2)) (z:s2.pc=((4 *q+3:Nat):Int)) (x:s2.mem.length=4224):
  Go W inp 4 s {s2 with pc:=((4 *(q+1):Nat):Int),mem:=s2.mem.set (e+1) s2.r1,st:=s2.st+1}:=by
 obtain⟨j,k,l,n⟩:=Qh B;have f:=Tu (inp:=inp) y j k hd v;have g:nC W inp (s.hd q d)=some (0,s2):=by rw[mO (p:=4 *q+2) rfl l A];exact t
 have i:=Tq (inp:=inp) z n u x;exact(f.app (.one g)).app i
theorem Ag {o a b c:Int} {e:Nat} (n:yD W (4 *q) (zD (d:Int) (gB o a b c) (e:Int))) (l:(0≤o∧o≤200)∧(0≤a∧a≤15)∧(0≤b∧b≤15)∧(0≤c∧c≤65535)) (k:s.pc=((4 *q:Nat):Int)) (hd:d≤200) (j:s.mem.length=4224):
  Go W inp 2 s (s.hd q d)∧nC W inp (s.hd q d)=uD inp o a b c (s.hd q d):=by
 obtain⟨f,g,i,t⟩:=Qh n;exact⟨Tu (inp:=inp) k f g hd j,mO (p:=4 *q+2) rfl i l⟩
end
theorem zU {l:List Int} {j:Nat} {v:Int} (h:l[j]?=some v):l.set j v=l:=by
 refine lL fun i=>?_;rw[hY];split
 ·rename_i e;subst e
  have:=(bF.1 h).1;rw[bD this,h]
 rfl
theorem nV.put {cx:Cx} {br bv:Nat} {abs:List Nat} {st:RS} {vo v':AV} {H H':Hp} (h:nV cx br bv abs st vo H) {c:UInt8} (hl:st.out.length<65536) (ho:eB 1 v' (st.out.map rG++[rG c]) H')
  (hk: ∀b o,H b=some o→vo≠ .osl 1 b (st.out.map rG).length→H' b=some o) (hg: ∀b,off vo b→H b≠none→off v' b):
  nV cx br bv abs {st with out:=st.out++[c]} v' (upd H' br (some (.rows 8 [[.isl 2 (cx.funs.map Cf.row), .osl 1 bv st.vars.length, .isl 1 (fR abs st.arrs), .str cx.inp, .int .i64 st.read,v', .int .i64 st.ticks, .int .i64 cx.fuel]])))∧
  kJ br bv abs vo v' H (upd H' br (some (.rows 8 [[.isl 2 (cx.funs.map Cf.row), .osl 1 bv st.vars.length, .isl 1 (fR abs st.arrs), .str cx.inp, .int .i64 st.read,v', .int .i64 st.ticks, .int .i64 cx.fuel]]))):=by
 have n2:bv≠br:=h.nbr h.v;have hob:off vo br:=h.o.offsz h.r (by decide);have hob':off v' br:=hg br hob (by rw[h.r];exact bZ _);refine⟨⟨bC _ _ _, ?_,h.al,fun i b' l h1 h2=>?_,h.nd,h.va, ?_,hg bv h.ov (by rw[h.v];exact bZ _),fun b hb=>hg b (h.oa b hb) (h.abs_some hb),h.uv,h.ua, ?_,h.rd,h.tk⟩,fun b o hb h1 h2 h3 h4=>⟨?_,hg b h4 (by rw[hb];exact bZ _)⟩⟩
 ·rw[cH _ _ n2];exact hk _ _ h.v (h.ov _ _)
 ·have hb:=h.a i b' l h1 h2
  rw[cH _ _ (h.nbr hb)];exact hk _ _ hb (h.oa b' (aW h1) _ _)
 ·rw[cO]
  exact ho.off hob' _
 ·simp only[aB,bS];omega
 rw[cH _ _ h1];exact hk _ _ hb (h4 _ _)
theorem tG {l:List Int} {i:Nat} {x:Int} (h:l[i]?=some x):(l.map gI)[i]?=some [.int .u32 x]:=by rw[dM,h];rfl
theorem Be.other {bv:Nat} {abs:List Nat} {vo:AV} {H:Hp} {b bo:Nat} {rows:List (List AV)} (h:Be bv abs vo b rows H) (hne:b≠bo) (o:Option iF):Be bv abs vo b rows (upd H bo o):=⟨by rw[cH _ _ hne];exact h.h,h.nv,h.na,h.nf⟩
structure Pl where
 name:dD
 loc:Bool
 num:Int
def vJ:List Pl→dD→Option (Bool×Int)
 |[],_=>none
 |t::l,s=>if s=t.name then some (t.loc,t.num)else vJ l s
def RL (b:Bool):Nat→List dD→List Pl
 |_,[]=>[]
 |i,s::l=>⟨s,b,i⟩::RL b (i+1) l
def lV (p:Pg):List Pl:=RL false 0 p.vars++RL false 0 (p.arrs.map Ar.name)++RL false 0 (p.funs.map Fu.name)
def Vg (f:Fu):List Pl:=RL true 0 (f.params++f.locs)
def Wy (G I:List Pl) (s:dD):Bool×Int:=match vJ I s with |some r=>r|none=>(vJ G s).getD (false,0)
def Jj (G:List Pl) (f:Fu):Cf:=⟨f.params.length+f.locs.length,Wy G (Vg f),f.body⟩
theorem Am: ∀l:List UInt8,pR (l.map rG)=some l
 |[]=>rfl
 |c::l=>by
  have h:UInt8.ofNat ((c.toNat:Int).toNat)=c:=by simp
  simp only[cU,rG,pR,Jm,h,cA];rw[Am l];rfl
theorem nV.seal {cx:Cx} {r v:Nat} {abs:List Nat} {st:RS} {vo:AV} {H:Hp} {E:kB} {N:Nat} {Q:fJ} {c:Code} {fr:Fr} (f:nV cx r v abs st vo H)
  (h: ∀g d,(∀j,tQ (fr j)=true→g j=fr j)→d r=some (.rows 8 [[.isl 2 (cx.funs.map Cf.row), .osl 1 v st.vars.length, .isl 1 (fR abs st.arrs), .str cx.inp, .int .i64 st.read, .isl 1 (st.out.map rG), .int .i64 st.ticks, .int .i64 cx.fuel]])→
   (∀b s l,b≠r→off vo b→(∀r∈l, ∀x∈r,tQ x=true)→H b=some (.rows s l)→d b=some (.rows s l))→mT E N c Q g d):mT E N c Q fr H:=by
 have u:H r=some (.rows 8 [[AV.isl 2 (cx.funs.map Cf.row), .osl 1 v st.vars.length, .isl 1 (fR abs st.arrs), .str cx.inp, .int .i64 st.read]++vo::[.int .i64 st.ticks, .int .i64 cx.fuel]]):=f.r;refine iG f.o u (fun x a=>?_) (fun x a=>?_) (f.o.offsz f.r (by decide)) fun g d y z A=>h g d (fun j B=>y j (bU B)) z fun b s l i k p t=>A b s l i k (fun r C x a=>bU (p r C x a)) t
 ·simp only[bL,bN,dH]at a
  rcases a with rfl|rfl|rfl|rfl|rfl
  ·exact bU rfl
  ·intro s b n e
   cases e;exact f.ov
  ·exact bU rfl
  ·exact bU rfl
  exact bU rfl
 simp only[bL,bN,dH]at a;rcases a with rfl|rfl<;>exact bU rfl
end Go.Al
namespace Go.Proofs.YtaecpjgmcffliaaGreatDoor
open Go.Al Go.Proofs.Tryz
def jP (t:dD):List Int:=t.map fun c=>(c.toNat:Int)
theorem jF (a b:dD):jP (a++b)=jP a++jP b:=cO
theorem gE (a:dD):(jP a).length=a.length:=aG _
theorem eL (c:Int) (q:Nat) (z:Zs):iL [c] q z=(Bh (q:Int) c z,vW (q:Int) c z):=by simp [iL]
theorem jM {W:List Int} {q:Nat} {A B:List Int} {z:Zs} (h:yD W (4 *q) (iL (A++B) q z).2):yD W (4 *q) (iL A q z).2∧yD W (4 *(q+A.length)) (iL B (q+A.length) (iL A q z).1).2:=by
 rw[zM]at h;obtain⟨b,a⟩:=h.app;rw[vX]at a;exact⟨b,by rw[Nat.mul_add];exact a⟩
theorem iK (A B:List Int) (q:Nat) (z:Zs):(iL (A++B) q z).1=(iL B (q+A.length) (iL A q z).1).1:=by rw[zM]
structure Nm (V:UInt8→Prop) (A:Prop) (rs:dD→Bool×Int):Prop where
 lt: ∀c,V c→97≤c.toNat∧c.toNat≤122
 inj: ∀c c',V c→V c'→(rs [c]).2=(rs [c']).2→c=c'
 gl: ∀c,V c→(rs [c]).1=false∧0≤(rs [c]).2
 ar:A→(rs [116]).2=0
structure MR (V:UInt8→Prop) (A:Prop) (rs:dD→Bool×Int) (st:RS) (s:Mc):Prop where
 len:s.mem.length=4224
 rd:s.rd=st.read
 out:s.out=st.out
 vars: ∀c,V c→ ∃v,st.vars[((rs [c]).2).toNat]?=some v∧dR v∧s.mem[c.toNat]?=some v
 arr:A→ ∃L,st.arrs[0]?=some L∧L.length=4096∧ ∀j,j<4096→ ∃v,L[j]?=some v∧dR v∧s.mem[128+j]?=some v
section
variable {V : UInt8 → Prop} {A : Prop} {rs : dD → Bool × Int} {W : List Int} {cx : Cx}
theorem MR.keep {st:RS} {s s':Mc} (n:Nm V A rs) (h:MR V A rs st s) (p:s'.mem.length=4224) (f: ∀j,97≤j→s'.mem[j]?=s.mem[j]?) (u:s'.rd=s.rd) (t:s'.out=s.out):MR V A rs st s':=by
 refine⟨p,u.trans h.rd,t.trans h.out,fun c e=>?_,fun l=>?_⟩
 ·obtain⟨v,a,b,d⟩:=h.vars c e
  exact⟨v,a,b,by rw[f _ (n.lt c e).1];exact d⟩
 obtain⟨L,a,b,d⟩:=h.arr l;refine⟨L,a,b,fun j o=>?_⟩;obtain⟨v,g,i,k⟩:=d j o;exact⟨v,g,i,by rw[f _ (by omega)];exact k⟩
def ER (V:UInt8→Prop) (A:Prop) (rs:dD→Bool×Int) (W:List Int) (cx:Cx) (q len d:Nat) (tk:Nat) (s:Mc):Rz Int→Prop
 | .val v st'=>st'.ticks=tk∧dR v∧ ∃k s',k≤4 *len∧Go W cx.inp k s s'∧s'.pc=((4 *(q+len):Nat):Int)∧MR V A rs st' s'∧s'.mem[d+2]?=some v∧ ∀j,j<d+2→s'.mem[j]?=s.mem[j]?
 | .fin x st'=>st'.ticks=tk∧x≠0∧x≠5∧ ∃k s',k+1≤4 *len∧Fin W cx.inp k s x s'∧s'.out=st'.out
theorem Tt {inp:dD} {q d:Nat} {s:Mc} (e:yD W (4 *q) (zD (d:Int) (gB 3 1 2 0) (d:Int))) (c:s.pc=((4 *q:Nat):Int)) (hd:d≤200) (b:s.mem.length=4224): ∃a,Go W inp 4 s a∧a.pc=((4 *(q+1):Nat):Int)∧a.mem=s.mem∧a.rd=s.rd∧a.out=s.out:=by
 have g:=It (inp:=inp) (s2:={(s.hd q d).nx with r1:=s.m (d+1)}) e (by decide) c hd hd b rfl (by show((4 *q+2:Nat):Int)+1=_;omega) b;refine⟨_,g,rfl, ?_,rfl,rfl⟩;show s.mem.set (d+1) (s.m (d+1))=s.mem;exact zU (Mc.m_get (by omega))
theorem Pm {l:List Int} {d:Nat} {v:Int} (b:l.length=4224) (hd:d≤90):(l.set (d+2) v).length=4224∧(∀j,97≤j→(l.set (d+2) v)[j]?=l[j]?)∧(l.set (d+2) v)[d+2]?=some v∧ ∀j,j<d+2→(l.set (d+2) v)[j]?=l[j]?:=by
 refine⟨by rw[dJ,b],fun j a=>?_, ?_,fun j a=>?_⟩
 ·rw[gX (by omega),aJ (by omega)]
 ·rw[gX (by omega),bD rfl]
 rw[gX (by omega),aJ (by omega)]
theorem R7 (n:Nat): ∀(q d:Nat),d≤200→n<4294967296→(iL (jP (Lib.decDigits n)) q (zl d 0)).1=zl d (n:Int)∧
  ∀{inp:dD} {s:Mc},yD W (4 *q) (iL (jP (Lib.decDigits n)) q (zl d 0)).2→s.pc=((4 *q:Nat):Int)→s.mem.length=4224→ ∃a,Go W inp (4 *(Lib.decDigits n).length) s a∧a.pc=((4 *(q+(Lib.decDigits n).length):Nat):Int)∧a.mem=s.mem∧a.rd=s.rd∧a.out=s.out:=by
 induction n using Nat.strongRecOn with
 |_ n ih=>
  intro q d hd E
  have one: ∀k:Nat,k<10→jP [UInt8.ofNat (48+k)]=[((48+k:Nat):Int)]:=fun k D=>by
   simp only[jP,cU,dI];rw[UInt8.toNat_ofNat',Nat.mod_eq_of_lt (by omega)]
  rw[Lib.decDigits];split
  ·rename_i h
   have z:=L9 (q:=(q:Int)) (c:=((48+n:Nat):Int)) (d:=(d:Int)) (s:=1880096768) (m:=0) (by omega) (by omega) (by omega);rw[one n h,eL];refine⟨by rw[z.2];show Zs.mk _ _ _=Zs.mk _ _ _;congr 1;omega,fun {inp s} f o e=>?_⟩;rw[z.1]at f;obtain⟨a,g,i,b,j,l⟩:=Tt (inp:=inp) f o hd e;exact⟨a,g,i,b,j,l⟩
  rename_i h;have u:n % 10<10:=sF _ (by decide);obtain⟨t,v⟩:=ih (n/10) (by omega) q d hd (by omega);have z:=L9 (q:=((q+(jP (Lib.decDigits (n/10))).length:Nat):Int)) (c:=((48+n % 10:Nat):Int)) (d:=(d:Int)) (s:=1880096768) (m:=((n/10:Nat):Int)) (by omega) (by omega) (by omega);rw[jF,one _ u,iK,t,eL];refine⟨by rw[z.2];show Zs.mk _ _ _=Zs.mk _ _ _;congr 1;omega,fun {inp s} f o e=>?_⟩;obtain⟨C,p⟩:=jM f;rw[t,eL,z.1]at p;obtain⟨F,g,i,b,j,l⟩:=v (inp:=inp) C o e;rw[gE]at p;obtain⟨B,k1,x,k3,k4,y⟩:=Tt (inp:=inp) p i hd (by rw[b];exact e);refine⟨B, ?_, ?_,k3.trans b,k4.trans j,y.trans l⟩
  ·have:=g.app k1
   rw[aB,bS,Nat.mul_add];exact this
  rw[x,aB,bS,gA]
theorem lW {i:Int} {e:Ex} (h:SX V A i e): ∀(q d:Nat),(d:Int)≤i→(iL (jP (fO e)) q (zl d 0)).1=zl ((d+1:Nat):Int) 0:=by
 induction h with
 |num i n hl h=>
  intro q d hd;have f:fO (.mk 1 0 n [] [])=Lib.decDigits n.toNat++[32]:=by simp [fO,iJ,iR]
  have k:n.toNat<4294967296:=by have:=h.1;have:=h.2;omega
  obtain⟨p,_⟩:=R7 (W:=[]) n.toNat q d (by omega) k;rw[f,jF,iK,p];show(iL [32] _ _).1=_;rw[eL,(BY (by omega) (by omega)).2];rfl
 |var i c hl h hV=>
  intro q d hd;have f:fO (.mk 2 0 0 [c] [])=[c]:=by simp [fO,iJ,iR]
  have j:97≤c.toNat∧c.toNat≤122:=by simp only[Nq,aX,bP]at h;exact h
  rw[f];show(iL [(c.toNat:Int)] _ _).1=_;rw[eL,(QT (by omega) (by omega)).2];rfl
 |idx i a hl hA ha ih=>
  intro q d hd;have f:fO (.mk 3 0 0 [116] [a])=fO a++[64]:=by rw[fO,xX];simp [iR]
  rw[f,jF,iK,ih q d (by omega)];show(iL [64] _ _).1=_;rw[eL,(QU (by omega)).2]
 |get i hl=>
  intro q d hd;have f:fO (.mk 5 0 0 [] [])=[63]:=by simp [fO,iJ,iR]
  rw[f];show(iL [63] _ _).1=_;rw[eL,(pJ (A:=1997537280) (X:=gB 23 1 0 0) (g:=3) (by decide) (by decide) (by decide) (by decide) (by decide) (by decide) (by omega) (by omega)).2,show((d:Int)+3 - 2)=((d+1:Nat):Int)by omega]
 |neg i a hl ha ih=>
  intro q d hd;have f:fO (.mk 7 0 0 [] [a])=fO a++[33]:=by rw[fO,xX];simp [iR]
  rw[f,jF,iK,ih q d (by omega)];show(iL [33] _ _).1=_;rw[eL,(pJ (A:=1326579712) (X:=gB 15 1 2 0) (g:=2) (by decide) (by decide) (by decide) (by decide) (by decide) (by decide) (by omega) (by omega)).2,show(((d+1:Nat):Int)+2 - 2)=((d+1:Nat):Int)by omega]
 |op i o a b hl h ha hb iha ihb=>
  intro q d hd;obtain⟨c,j,l⟩:=QS h;have f:fO (.mk 6 o 0 [] [a,b])=fO a++(fO b++[c]):=by rw[fO,V4];simp [iR,j]
  rw[f,jF,jF,iK,iha q d (by omega),iK,ihb _ (d+1) (by omega)];show(iL [(c.toNat:Int)] _ _).1=_;rw[eL,(l (by omega)).2,show(((d+1+1:Nat):Int)- 1)=((d+1:Nat):Int)by omega]
end
section
variable {V : UInt8 → Prop} {A : Prop} {rs : dD → Bool × Int} {W : List Int} {cx : Cx} {inp : dD}
theorem ND {q d:Nat} {m:Int} {s:Mc} (c:yD W (4 *q) [gB 16 2 0 ((d:Int)+1),gB 1 1 0 (m % 65536),gB 2 1 0 (m/65536),gB 17 1 0 ((d:Int)+1+1)]) (v:0≤m∧m<4294967296) (u:s.pc=((4 *q:Nat):Int)) (hd:d≤90) (g:s.mem.length=4224):
  ∃b,Go W inp 4 s b∧b.pc=((4 *(q+1):Nat):Int)∧b.mem=s.mem.set (d+2) m∧b.rd=s.rd∧b.out=s.out:=by
 have l:W[4 *q]?=some (gB 16 2 0 ((d+1:Nat):Int)):=c 0 (by simp);have n:W[4 *q+1]?=some (gB 1 1 0 (m % 65536)):=c 1 (by simp);have o:W[4 *q+2]?=some (gB 2 1 0 (m/65536)):=c 2 (by simp);have t:W[4 *q+3]?=some (gB 17 1 0 ((d+1+1:Nat):Int)):=c 3 (by simp);have f:=Q6 (inp:=inp) (a:=2) u l (.inr rfl) (by omega) g;rw[aJ (by decide)]at f
 have i:nC W inp {s.nx with r2:=s.m (d+1)}=some (0,{({s.nx with r2:=s.m (d+1)}:Mc).nx with r1:=m % 65536}):=by
  rw[mO (p:=4 *q+1) (by show s.pc+1=_;omega) n (by omega)];rfl
 have j:nC W inp {({s.nx with r2:=s.m (d+1)}:Mc).nx with r1:=m % 65536}=some (0,{({({s.nx with r2:=s.m (d+1)}:Mc).nx with r1:=m % 65536}:Mc).nx with r1:=m}):=by
  rw[mO (p:=4 *q+2) (by show s.pc+1+1=_;omega) o (by omega)];show some _=some _;have :m % 65536 % 65536+m/65536 *65536=m:=by omega
  rw[show(Mc.r {({s.nx with r2:=s.m (d+1)}:Mc).nx with r1:=m % 65536} 1)=m % 65536 from rfl,this]
 have k:=Tq (W:=W) (inp:=inp) (q:=q) (e:=d+1) (s:={({({s.nx with r2:=s.m (d+1)}:Mc).nx with r1:=m % 65536}:Mc).nx with r1:=m}) (by show s.pc+1+1+1=_;omega) t (by omega) g;exact⟨_, .step f (.step i (.step j k)),rfl,rfl,rfl,rfl⟩
theorem VT {q d:Nat} {x:Int} {s:Mc} (f:yD W (4 *q) [gB 16 2 0 ((d:Int)+1),gB 25 2 0 4096,gB 16 1 2 128,gB 17 1 0 ((d:Int)+1)]) (C:s.mem[d+1]?=some x) (D:0≤x) (B:s.pc=((4 *q:Nat):Int)) (hd:d≤90) (j:s.mem.length=4224):
  (∀v,x<4096→s.mem[128+x.toNat]?=some v→ ∃b,Go W inp 4 s b∧b.pc=((4 *(q+1):Nat):Int)∧b.mem=s.mem.set (d+1) v∧b.rd=s.rd∧b.out=s.out)∧(¬x<4096→ ∃b,Fin W inp 1 s 3 b∧b.out=s.out):=by
 have o:W[4 *q]?=some (gB 16 2 0 ((d+1:Nat):Int)):=f 0 (by simp);have t:W[4 *q+1]?=some (gB 25 2 0 4096):=f 1 (by simp);have u:W[4 *q+2]?=some (gB 16 1 2 128):=f 2 (by simp);have y:W[4 *q+3]?=some (gB 17 1 0 ((d+1:Nat):Int)):=f 3 (by simp);have g:=Q6 (inp:=inp) (a:=2) B o (.inr rfl) (by omega) j;rw[aJ (by decide),Mc.m_some C]at g
 have c:nC W inp {s.nx with r2:=x}=if x<4096 then some (0,({s.nx with r2:=x}:Mc).nx)else some (3,({s.nx with r2:=x}:Mc).stp):=by
  rw[mO (p:=4 *q+1) (by show s.pc+1=_;omega) t (by decide)];rfl
 refine⟨fun v i z=>?_,fun i=>?_⟩
 ·rw[bD i]at c
  have l:nC W inp ({s.nx with r2:=x}:Mc).nx=some (0,{({s.nx with r2:=x}:Mc).nx.nx with r1:=v}):=by
   rw[mO (p:=4 *q+2) (by show s.pc+1+1=_;omega) u (by decide)];have e:gR ((({s.nx with r2:=x}:Mc).nx).r 2+128)=x+128:=by show gR (x+128)=_;rw[eN (by omega)]
   have k:(({s.nx with r2:=x}:Mc).nx).mem[(x+128).toNat]?=some v:=by rw[show(x+128).toNat=128+x.toNat by omega];exact z
   simp only[uD,e,k];rfl
  have n:=Tq (W:=W) (inp:=inp) (q:=q) (e:=d) (s:={({s.nx with r2:=x}:Mc).nx.nx with r1:=v}) (by show s.pc+1+1+1=_;omega) y (by omega) j;exact⟨_, .step g (.step c (.step l n)),rfl,rfl,rfl,rfl⟩
 rw[aJ i]at c;exact⟨_,⟨_, .one g,c⟩,rfl⟩
theorem xP {q d e:Nat} {o a b c v:Int} {rd:Nat} {s:Mc} (p:yD W (4 *q) (zD (d:Int) (gB o a b c) (e:Int))) (n:(0≤o∧o≤200)∧(0≤a∧a≤15)∧(0≤b∧b≤15)∧(0≤c∧c≤65535)) (l:s.pc=((4 *q:Nat):Int)) (hd:d≤200) (k:e≤200) (i:s.mem.length=4224)
  (j:uD inp o a b c (s.hd q d)=some (0,{(s.hd q d).nx with r1:=v,rd:=rd})): ∃f,Go W inp 4 s f∧f.pc=((4 *(q+1):Nat):Int)∧f.mem=s.mem.set (e+1) v∧f.rd=rd∧f.out=s.out:=by
 have g:=It p n l hd k i j (by show((4 *q+2:Nat):Int)+1=_;omega) i;exact⟨_,g,rfl,rfl,rfl,rfl⟩
theorem uV (f:Nm V A rs) {q len d e k:Nat} {s s1 s':Mc} {st':RS} {v:Int} (i:k≤4 *len) (g:Go W cx.inp k s s') (p:s'.pc=((4 *(q+len):Nat):Int)) (n:s'.mem=s1.mem.set (d+2) v) (a:MR V A rs st' s1) (t:s'.rd=s1.rd) (o:s'.out=s1.out) (l: ∀j,j<d+2→s1.mem[j]?=s.mem[j]?) (x:dR v) (u:st'.ticks=e) (hd:d≤90):ER V A rs W cx q len d e s (.val v st'):=by
 obtain⟨k1,c,k3,k4⟩:=Pm (v:=v) a.len hd;rw[←n]at k1 c k3 k4;exact⟨u,x,k,s',i,g,p,a.keep f k1 c t o,k3,fun j b=>by rw[k4 j b,l j b]⟩
theorem Ov (H:Nm V A rs) {J:Int} {e:Ex} (h:SX V A J e): ∀(q d n:Nat) (st:RS) (s:Mc) (r:Rz Int),(d:Int)≤J→yD W (4 *q) (iL (jP (fO e)) q (zl d 0)).2→s.pc=((4 *q:Nat):Int)→MR V A rs st s→kR cx n rs [] e st=some r→ER V A rs W cx q (fO e).length d st.ticks s r:=by
 induction h with
 |num J m hl h=>
  intro q d n st s r hd p F l f
  cases n with
  |zero=>simp [kR]at f
  |succ n=>
  simp only[kR,cQ,Option.some.injEq]at f;subst f;have z:fO (.mk 1 0 m [] [])=Lib.decDigits m.toNat++[32]:=by simp [fO,iJ,iR]
  have hn:m.toNat<4294967296:=by have:=h.1;have:=h.2;omega
  have a5:((m.toNat:Nat):Int)=m:=Int.toNat_of_nonneg h.1;obtain⟨i1,i2⟩:=R7 (W:=W) m.toNat q d (by omega) hn;rw[z,jF]at p;obtain⟨S,t⟩:=jM p;rw[i1,gE]at t;have t:yD W (4 *(q+(Lib.decDigits m.toNat).length)) (iL [32] (q+(Lib.decDigits m.toNat).length) (zl d ((m.toNat:Nat):Int))).2:=t;rw[eL,(BY (by omega) (by omega)).1,a5]at t;obtain⟨s1,G,K,E,M,N⟩:=i2 (inp:=cx.inp) S F l.len;obtain⟨B,k1,u,k3,k4,D⟩:=ND (inp:=cx.inp) t ⟨h.1,by have:=h.2;omega⟩ K (by omega) (by rw[E];exact l.len);rw[z,aB,bS];exact uV H (by omega) (G.app k1) (by rw[u,gA]) (by rw[k3,E]) l (k4.trans M) (D.trans N) (fun _ _=>rfl) h rfl (by omega)
 |var J c hl h hV=>
  intro q d n st s r hd p F l f
  cases n with
  |zero=>simp [kR]at f
  |succ n=>
  have z:fO (.mk 2 0 0 [c] [])=[c]:=by simp [fO,iJ,iR]
  have hc:=H.lt c hV;obtain⟨v,v1,v2,v3⟩:=l.vars c hV;obtain⟨l1,l2⟩:=H.gl c hV;simp only[kR,Int.reduceEq,cQ,dC,Pz,l1,l2,cF,v1,eD,Option.some.injEq]at f;subst f;rw[z]at p⊢;have p:yD W (4 *q) (iL [(c.toNat:Int)] q (zl d 0)).2:=p;rw[eL,(QT (by omega) (by omega)).1]at p
  obtain⟨B,k1,u,k3,k4,D⟩:=xP (inp:=cx.inp) (e:=d+1) (v:=v) (rd:=s.rd) p (by omega) F (by omega) (by omega) l.len (by
   have e:gR ((s.hd q d).r 0+(c.toNat:Int))=(c.toNat:Int):=by show gR (0+(c.toNat:Int))=_;rw[Int.zero_add,eN (by omega)]
   have e2:(s.hd q d).mem[c.toNat]?=some v:=v3;simp only[uD,e,cB,e2]
   rfl)
  exact uV H (len:=1) (by omega) k1 u k3 l k4 D (fun _ _=>rfl) v2 rfl (by omega)
 |idx J a hl hA ha ih=>
  intro q d n st s r hd p F l f
  cases n with
  |zero=>simp [kR]at f
  |succ n=>
  have z:fO (.mk 3 0 0 [116] [a])=fO a++[64]:=by rw[fO,xX];simp [iR]
  rw[z,jF]at p;obtain⟨S,t⟩:=jM p;rw[lW ha q d (by omega),gE]at t;have t:yD W (4 *(q+(fO a).length)) (iL [64] (q+(fO a).length) (zl ((d+1:Nat):Int) 0)).2:=t;rw[eL,(QU (by omega)).1]at t;simp only[kR,Int.reduceEq,cQ,dC,eS,H.ar hA]at f
  cases hx:kR cx n rs [] a st with
  |none=>rw[hx]at f;cases f
  |some ra=>
  rw[hx]at f;have I:=ih q d n st s ra (by omega) S F l hx;rw[z,aB,bS]
  cases ra with
  |fin x st1=>
   simp only[bindR,Option.some.injEq]at f;subst f;obtain⟨C,T,U,k,R,hk,O,P⟩:=I;exact⟨C,T,U,k,R,by omega,O,P⟩
  |val x st1=>
   obtain⟨C,Q,k,s1,hk,G,K,E,M,N⟩:=I;obtain⟨L,L1,L2,L3⟩:=E.arr hA;simp only[bindR,U1,Int.toNat_zero,L1,L2,Int.le_refl,cQ]at f;obtain⟨a1,a2⟩:=VT (inp:=cx.inp) t M Q.1 K (by omega) E.len;by_cases c:x<4096
   ·obtain⟨v,v1,v2,v3⟩:=L3 x.toNat (by have:=Q.1;omega)
    rw[bD (by have:=Q.1;omega)]at f;simp only[L1,cA,v1,eD,Option.some.injEq]at f;subst f;obtain⟨B,k1,u,k3,k4,D⟩:=a1 v c v3;exact uV H (by omega) (G.app k1) (by rw[u,gA]) k3 E k4 D N v2 C (by omega)
   rw[aJ (by have:=Q.1;omega)]at f;simp only[Option.some.injEq]at f;subst f;obtain⟨B,k1,u⟩:=a2 c;exact⟨C,by decide,by decide,k+1,B,by omega,Fin.after G k1,by rw[u,E.out]⟩
 |get J hl=>
  intro q d n st s r hd p F l f
  cases n with
  |zero=>simp [kR]at f
  |succ n=>
  have z:fO (.mk 5 0 0 [] [])=[63]:=by simp [fO,iJ,iR]
  rw[z]at p⊢;have p:yD W (4 *q) (iL [63] q (zl d 0)).2:=p;rw[eL,(pJ (A:=1997537280) (X:=gB 23 1 0 0) (g:=3) (by decide) (by decide) (by decide) (by decide) (by decide) (by decide) (by omega) (by omega)).1,show((d:Int)+3 - 2)=((d+1:Nat):Int)by omega]at p;simp only[kR,Int.reduceEq,cQ,dC,Option.some.injEq,zE]at f;have a4:(s.hd q d).rd=st.read:=l.rd
  cases Y:cx.inp[st.read]? with
  |none=>
   rw[Y]at f;subst f
   obtain⟨B,k1,u,k3,k4,D⟩:=xP (inp:=cx.inp) (e:=d+1) (v:=256) (rd:=s.rd) p (by decide) F (by omega) (by omega) l.len (by
    simp only[uD,a4,Y]
    rfl)
   exact uV H (len:=1) (by omega) k1 u k3 l k4 D (fun _ _=>rfl) (by simp [dR]) rfl (by omega)
  |some c=>
   rw[Y]at f;subst f
   obtain⟨B,k1,u,k3,k4,D⟩:=xP (inp:=cx.inp) (e:=d+1) (v:=(c.toNat:Int)) (rd:=st.read+1) p (by decide) F (by omega) (by omega) l.len (by
    simp only[uD,a4,Y]
    rfl)
   have hc:=Vr c;exact uV H (len:=1) (s1:={s with rd:=s.rd+1}) (by omega) k1 u k3 ⟨l.len,by show s.rd+1=st.read+1;rw[l.rd],l.out,l.vars,l.arr⟩ (by rw[k4];show _=s.rd+1;rw[l.rd]) D (fun _ _=>rfl) (by simp only[dR];omega) rfl (by omega)
 |neg J a hl ha ih=>
  intro q d n st s r hd p F l f
  cases n with
  |zero=>simp [kR]at f
  |succ n=>
  have z:fO (.mk 7 0 0 [] [a])=fO a++[33]:=by rw[fO,xX];simp [iR]
  rw[z,jF]at p;obtain⟨S,t⟩:=jM p;rw[lW ha q d (by omega),gE]at t;have t:yD W (4 *(q+(fO a).length)) (iL [33] (q+(fO a).length) (zl ((d+1:Nat):Int) 0)).2:=t;rw[eL,(pJ (A:=1326579712) (X:=gB 15 1 2 0) (g:=2) (by decide) (by decide) (by decide) (by decide) (by decide) (by decide) (by omega) (by omega)).1,show(((d+1:Nat):Int)+2 - 2)=((d+1:Nat):Int)by omega]at t;simp only[kR,Int.reduceEq,cQ,dC,eS]at f
  cases hx:kR cx n rs [] a st with
  |none=>rw[hx]at f;cases f
  |some ra=>
  rw[hx]at f;have I:=ih q d n st s ra (by omega) S F l hx;rw[z,aB,bS]
  cases ra with
  |fin x st1=>
   simp only[bindR,Option.some.injEq]at f;subst f;obtain⟨C,T,U,k,R,hk,O,P⟩:=I;exact⟨C,T,U,k,R,by omega,O,P⟩
  |val x st1=>
   obtain⟨C,Q,k,s1,hk,G,K,E,M,N⟩:=I;simp only[bindR,Option.some.injEq]at f;subst f
   obtain⟨B,k1,u,k3,k4,D⟩:=xP (inp:=cx.inp) (e:=d+1) (v:=if x=0 then 1 else 0) (rd:=s1.rd) t (by decide) K (by omega) (by omega) E.len (by
    have e2:(s1.hd (q+(fO a).length) (d+1)).r 2=x:=Mc.m_some M;have e3:(s1.hd (q+(fO a).length) (d+1)).r 0=0:=rfl;simp only[uD,e2,e3,Uo]
    rfl)
   exact uV H (by omega) (G.app k1) (by rw[u,gA]) k3 E k4 D N (by split<;>simp [dR]) C (by omega)
 |op J o a b hl h ha hb iha ihb=>
  intro q d n st s r hd p F l f
  cases n with
  |zero=>simp [kR]at f
  |succ n=>
  obtain⟨c,hc,hz⟩:=QS h;have z:fO (.mk 6 o 0 [] [a,b])=fO a++(fO b++[c]):=by rw[fO,V4];simp [iR,hc]
  rw[z,jF,jF]at p;obtain⟨S,t⟩:=jM p;rw[lW ha q d (by omega),gE]at t;obtain⟨t,Z⟩:=jM t;rw[lW hb _ (d+1) (by omega),gE]at Z;have Z:yD W (4 *(q+(fO a).length+(fO b).length)) (iL [(c.toNat:Int)] (q+(fO a).length+(fO b).length) (zl ((d+1+1:Nat):Int) 0)).2:=Z;rw[eL,(hz (by omega)).1,show(((d+1+1:Nat):Int)- 1)=((d+1:Nat):Int)by omega]at Z;simp only[kR,Int.reduceEq,cQ,dC,eS,kU]at f;rw[z,aB,aB,bS]
  cases hx:kR cx n rs [] a st with
  |none=>rw[hx]at f;cases f
  |some ra=>
  rw[hx]at f;have I:=iha q d n st s ra (by omega) S F l hx
  cases ra with
  |fin x st1=>
   simp only[bindR,Option.some.injEq]at f;subst f;obtain⟨C,T,U,k,R,hk,O,P⟩:=I;exact⟨C,T,U,k,R,by omega,O,P⟩
  |val x st1=>
  obtain⟨C,Q,k,s1,hk,G,K,E,M,N⟩:=I;simp only[bindR]at f
  cases hy:kR cx n rs [] b st1 with
  |none=>rw[hy]at f;cases f
  |some rb=>
  rw[hy]at f;have hF:=ihb (q+(fO a).length) (d+1) n st1 s1 rb (by omega) t K E hy
  cases rb with
  |fin y st2=>
   simp only[Option.some.injEq]at f;subst f;obtain⟨t2,T,U,u,R,a7,O,P⟩:=hF;exact⟨t2.trans C,T,U,k+u,R,by omega,Fin.after G O,P⟩
  |val y st2=>
   obtain⟨t2,hv,j,B,hj,j1,j2,j3,j4,j5⟩:=hF;have a6:B.mem[d+2]?=some x:=by rw[j5 _ (by omega)];exact M
   have e2:(B.hd (q+(fO a).length+(fO b).length) (d+1+1)).r 2=y:=Mc.m_some j4;have e3:(B.hd (q+(fO a).length+(fO b).length) (d+1+1)).r 1=x:=Mc.m_some a6
   have a0:uD cx.inp o 1 1 2 (B.hd (q+(fO a).length+(fO b).length) (d+1+1))=if(eQ o x y).2=0 then(B.hd (q+(fO a).length+(fO b).length) (d+1+1)).set 1 (eQ o x y).1 else some (2,(B.hd (q+(fO a).length+(fO b).length) (d+1+1)).stp):=by
    unfold uD;rw[aJ (by omega),aJ (by omega),aJ (by omega),bD h,e2,e3]
   by_cases a3:(eQ o x y).2=0
   ·rw[bD a3]at a0
    simp only[a3,cQ,Option.some.injEq]at f;subst f;obtain⟨s3,k1,u,k3,k4,D⟩:=xP (inp:=cx.inp) (e:=d+1) (v:=(eQ o x y).1) (rd:=B.rd) Z (by omega) j2 (by omega) (by omega) j3.len (by rw[a0];rfl);refine uV H (by omega) ((G.app j1).app k1) (by rw[u];simp only[gA]) k3 j3 k4 D (fun i Y=>by rw[j5 i (by omega),N i Y]) (Kx o Q hv) (t2.trans C) (by omega)
   rw[aJ a3]at a0;simp only[a3,dC,Option.some.injEq]at f;subst f;obtain⟨k1,u⟩:=Ag (inp:=cx.inp) Z (by omega) j2 (by omega) j3.len;exact⟨t2.trans C,by decide,by decide,k+j+2,_,by omega,⟨_,(G.app j1).app k1,u.trans a0⟩,j3.out⟩
end
section
mutual
def yI:Nat→Sm→List Int
 |b, .mk k s l t _=>
  if k=1 then jP (iJ l)++([58]++jP s)
  else if k=2 then jP (iJ l)++[35]
  else if k=3 then jP (iJ l)++[46]
  else if k=4 then jP (iJ l)++([857735172+4 *((b+(iJ l).length+1+(hJ t).length:Nat):Int)]++(pX (b+(iJ l).length+1) t++[70]))
  else [87]++(jP (iJ l)++([857735172+4 *((b+1+(iJ l).length+1+(hJ t).length:Nat):Int)]++(pX (b+1+(iJ l).length+1) t++[69])))
def pX:Nat→List Sm→List Int
 |_,[]=>[]
 |b,s::l=>yI b s++pX (b+(oW s).length) l
end
def vM (c:UInt8):Prop:=c≠68∧c≠73∧c≠69∧c≠70
theorem pY: ∀(u:dD),(∀c∈u,vM c)→ ∀(T:List Int) (o:Int),yB u (T,o)=some (T++jP u,o)
 |[],_,T,o=>by simp [yB,jP]
 |c::u,h,T,o=>by
  obtain⟨a,b,d,f⟩:=h c (dU)
  have e:P9 c (T,o)=some (T++[(c.toNat:Int)],o):=by
   unfold P9;rw[aJ (by simp [a,b]),aJ (by simp [d,f])]
  simp only[yB,e,cA];rw[pY u (fun x g=>h x (fC _ g))];simp [jP]
theorem JY (n:Nat): ∀c∈Lib.decDigits n,vM c∧48≤c.toNat∧c.toNat≤57:=by
 induction n using Nat.strongRecOn with
 |_ n ih=>
  have one: ∀k:Nat,k<10→vM (UInt8.ofNat (48+k))∧48≤(UInt8.ofNat (48+k)).toNat∧(UInt8.ofNat (48+k)).toNat≤57:=fun k b=>by
   have :k=0∨k=1∨k=2∨k=3∨k=4∨k=5∨k=6∨k=7∨k=8∨k=9:=by omega
   rcases this with rfl|rfl|rfl|rfl|rfl|rfl|rfl|rfl|rfl|rfl<;>exact⟨⟨by decide,by decide,by decide,by decide⟩,by decide,by decide⟩
  intro c a;rw[Lib.decDigits]at a;split at a
  ·rename_i h
   rw[bE]at a;subst a;exact one n h
  rw[eU,bE]at a;rcases a with a|rfl
  ·exact ih _ (by omega) c a
  exact one _ (sF _ (by decide))
section
variable {V : UInt8 → Prop} {A : Prop}
theorem xH {g:Int} {e:Ex} (h:SX V A g e): ∀c∈fO e,vM c:=by
 have i: ∀k:UInt8,vM k→ ∀c∈[k],vM c:=fun k p c f=>by rw[bE]at f;subst f;exact p
 have Rr: ∀{a b:dD},(∀c∈a,vM c)→(∀c∈b,vM c)→ ∀c∈a++b,vM c:=fun j l c f=>by
  rcases eU.1 f with h|h
  ·exact j c h
  exact l c h
 induction h with
 |num g n hl h=>
  have d:fO (.mk 1 0 n [] [])=Lib.decDigits n.toNat++[32]:=by simp [fO,iJ,iR]
  rw[d];exact Rr (fun c f=>(JY _ c f).1) (i 32 ⟨by decide,by decide,by decide,by decide⟩)
 |var g c hl h hV=>
  have d:fO (.mk 2 0 0 [c] [])=[c]:=by simp [fO,iJ,iR]
  have f:97≤c.toNat∧c.toNat≤122:=by simp only[Nq,aX,bP]at h;exact h
  rw[d];refine i c ⟨fun e=>?_,fun e=>?_,fun e=>?_,fun e=>?_⟩<;>(rw[e]at f;exact absurd f.1 (by decide))
 |idx g a hl hA j ih=>
  have d:fO (.mk 3 0 0 [116] [a])=fO a++[64]:=by rw[fO,xX];simp [iR]
  rw[d];exact Rr ih (i 64 ⟨by decide,by decide,by decide,by decide⟩)
 |get g hl=>
  have d:fO (.mk 5 0 0 [] [])=[63]:=by simp [fO,iJ,iR]
  rw[d];exact i 63 ⟨by decide,by decide,by decide,by decide⟩
 |neg g a hl j ih=>
  have d:fO (.mk 7 0 0 [] [a])=fO a++[33]:=by rw[fO,xX];simp [iR]
  rw[d];exact Rr ih (i 33 ⟨by decide,by decide,by decide,by decide⟩)
 |op g o a b hl h j l iha ihb=>
  have u: ∃c:UInt8,opS[(o- 4).toNat]?=some c∧vM c:=by
   have :o=4∨o=5∨o=6∨o=7∨o=8∨o=9∨o=10∨o=11∨o=12∨o=13∨o=14∨o=15:=by omega
   rcases this with rfl|rfl|rfl|rfl|rfl|rfl|rfl|rfl|rfl|rfl|rfl|rfl<;>exact⟨_,rfl,by decide,by decide,by decide,by decide⟩
  obtain⟨c,f,t⟩:=u;have d:fO (.mk 6 o 0 [] [a,b])=fO a++(fO b++[c]):=by rw[fO,V4];simp [iR,f]
  rw[d];exact Rr iha (Rr ihb (i c t))
theorem RD (c:UInt8) (e:Ex):oW (.mk 1 [c] [e] [] [])=fO e++[58,c]:=by simp [oW,xX]
theorem RB (a e:Ex):oW (.mk 2 [116] [a,e] [] [])=fO a++(fO e++[35]):=by simp [oW,V4]
theorem RA (e:Ex):oW (.mk 3 [] [e] [] [])=fO e++[46]:=by simp [oW,xX]
theorem C4 (e:Ex) (t:List Sm):oW (.mk 4 [] [e] t [])=fO e++([73]++(hJ t++[70])):=by simp [oW,xX]
theorem C3 (e:Ex) (t:List Sm):oW (.mk 5 [] [e] t [])=[87]++(fO e++([68]++(hJ t++[69]))):=by simp [oW,xX]
theorem Y5 (b:Nat) (c:UInt8) (e:Ex):yI b (.mk 1 [c] [e] [] [])=jP (fO e)++([58]++[(c.toNat:Int)]):=by simp [yI,xX,jP]
theorem Y4 (b:Nat) (a e:Ex):yI b (.mk 2 [116] [a,e] [] [])=jP (fO a)++(jP (fO e)++[35]):=by simp [yI,V4,jP]
theorem Y3 (b:Nat) (e:Ex):yI b (.mk 3 [] [e] [] [])=jP (fO e)++[46]:=by simp [yI,xX]
theorem Y2 (b:Nat) (e:Ex) (t:List Sm):yI b (.mk 4 [] [e] t [])=jP (fO e)++([857735172+4 *((b+(fO e).length+1+(hJ t).length:Nat):Int)]++(pX (b+(fO e).length+1) t++[70])):=by simp [yI,xX]
theorem Y1 (b:Nat) (e:Ex) (t:List Sm):yI b (.mk 5 [] [e] t [])=[87]++(jP (fO e)++([857735172+4 *((b+1+(fO e).length+1+(hJ t).length:Nat):Int)]++(pX (b+1+(fO e).length+1) t++[69]))):=by simp [yI,xX]
theorem qS: ∀{l:List Sm} {b:Nat},(∀s∈l, ∀b,(yI b s).length=(oW s).length)→(pX b l).length=(hJ l).length
 |[],_,_=>rfl
 |s::l,b,h=>by
  rw[pX,hJ,aB,aB,h s (dU),qS fun x a=>h x (fC _ a)]
theorem jL {d:Int} {m:Sm} (h:SS V A d m): ∀b,(yI b m).length=(oW m).length:=by
 induction h with
 |set d c e hl hc hV he=>intro b;rw[Y5,RD];simp [gE]
 |store d a e hl hA ha he=>intro b;rw[Y4,RB];simp [gE]
 |put d e hl he=>intro b;rw[Y3,RA];simp [gE]
 |cond d e t hl he ht ih=>intro b;rw[Y2,C4];simp [gE,qS ih]
 |loop d e t hl he ht ih=>intro b;rw[Y1,C3];simp [gE,qS ih]
theorem Xs {X Y:List Int} {o:Int} (c:UInt8) (a:c=69∨c=70):P9 c ((X++[o])++Y,(X.length:Int))=some (X++([857735172+4 *((X.length+1+Y.length:Nat):Int)]++(Y++[(c.toNat:Int)])),o):=by
 unfold P9;have b: ¬(c=68∨c=73):=by rcases a with rfl|rfl<;>decide
 rw[aJ b,bD a,bD (by show(0:Int)≤(X.length:Int);omega)]
 have d:((X++[o])++Y)[(X.length:Int).toNat]?=some o:=by
  rw[cB,bT,gZ (bH _)];simp
 simp only[cB];congr 2;rw[bT,bT,List.set_append_right _ _ (bH _)];simp [aB,Nat.add_comm];omega
theorem P7 (c:UInt8) (p:List Int×Int):yB [c] p=P9 c p:=by
 simp only[yB];cases P9 c p<;>rfl
theorem WS: ∀{l:List Sm},(∀m∈l, ∀T o,yB (oW m) (T,o)=some (T++yI T.length m,o)∧(yI T.length m).length=(oW m).length)→ ∀T o,yB (hJ l) (T,o)=some (T++pX T.length l,o)
 |[],_,T,o=>by simp [hJ,pX,yB]
 |m::l,h,T,o=>by
  obtain⟨a,b⟩:=h m (dU) T o;rw[hJ,mH,a,cA,WS (fun x c=>h x (fC _ c)),pX,aB,b,bT]
theorem YL {g:Int} {m:Sm} (h:SS V A g m): ∀T o,yB (oW m) (T,o)=some (T++yI T.length m,o):=by
 have y: ∀(k:UInt8),vM k→ ∀T o,yB [k] (T,o)=some (T++[(k.toNat:Int)],o):=fun k F T o=>pY [k] (fun c d=>by rw[bE]at d;subst d;exact F) T o;have z: ∀{t:List Sm} {g:Int},(∀s∈t,SS V A g s)→(∀s∈t, ∀T o,yB (oW s) (T,o)=some (T++yI T.length s,o))→ ∀s∈t, ∀T o,yB (oW s) (T,o)=some (T++yI T.length s,o)∧(yI T.length s).length=(oW s).length:=fun i n s j T o=>⟨n s j T o,jL (i s j) _⟩
 induction h with
 |set g c e hl d hV he=>
  intro T o;have f:97≤c.toNat∧c.toNat≤122:=by simp only[Nq,aX,bP]at d;exact d
  have G:vM c:=⟨fun e=>(by rw[e]at f;exact absurd f.1 (by decide)),fun e=>(by rw[e]at f;exact absurd f.1 (by decide)),fun e=>(by rw[e]at f;exact absurd f.1 (by decide)),fun e=>(by rw[e]at f;exact absurd f.1 (by decide))⟩
  rw[RD,Y5,mH,pY _ (xH he),cA,pY [58,c] (fun x B=>by
   simp only[bL,bN,dH]at B;rcases B with rfl|rfl
   ·exact⟨by decide,by decide,by decide,by decide⟩
   exact G)]
  simp [jP]
 |store g a e hl hA ha he=>
  intro T o;rw[RB,Y4,mH,pY _ (xH ha),cA,mH,pY _ (xH he),cA,y 35 ⟨by decide,by decide,by decide,by decide⟩];simp
 |put g e hl he=>
  intro T o;rw[RA,Y3,mH,pY _ (xH he),cA,y 46 ⟨by decide,by decide,by decide,by decide⟩];simp
 |cond g e t hl he i n=>
  intro T o;have v:=qS (b:=T.length+(fO e).length+1) fun s j=>jL (i s j);have l:=WS (z i n) ((T++jP (fO e))++[o]) ((T++jP (fO e)).length:Int);have p:((T++jP (fO e))++[o]).length=T.length+(fO e).length+1:=by simp only[aB,gE,bS]
  have u:(T++jP (fO e)).length=T.length+(fO e).length:=by simp [gE]
  rw[p]at l;have d:=Xs (X:=T++jP (fO e)) (Y:=pX (T.length+(fO e).length+1) t) (o:=o) 70 (.inr rfl);have D:yB [73] (T++jP (fO e),o)=some ((T++jP (fO e))++[o],((T++jP (fO e)).length:Int)):=by simp [yB,P9]
  rw[C4,Y2,mH,pY _ (xH he),cA,mH,D,cA,mH,l,cA,P7,d,u,v];simp [gA]
 |loop g e t hl he i n=>
  intro T o;have v:=qS (b:=T.length+1+(fO e).length+1) fun s j=>jL (i s j);have l:=WS (z i n) (((T++[87])++jP (fO e))++[o]) (((T++[87])++jP (fO e)).length:Int);have p:(((T++[87])++jP (fO e))++[o]).length=T.length+1+(fO e).length+1:=by simp [gE];omega
  have u:((T++[87])++jP (fO e)).length=T.length+1+(fO e).length:=by simp [gE];omega
  rw[p]at l;have d:=Xs (X:=(T++[87])++jP (fO e)) (Y:=pX (T.length+1+(fO e).length+1) t) (o:=o) 69 (.inl rfl);have E:yB [87] (T,o)=some (T++[87],o):=y 87 ⟨by decide,by decide,by decide,by decide⟩ T o;have C:yB [68] ((T++[87])++jP (fO e),o)=some (((T++[87])++jP (fO e))++[o],(((T++[87])++jP (fO e)).length:Int)):=by simp [yB,P9]
  rw[C3,Y1,mH,E,cA,mH,pY _ (xH he),cA,mH,C,cA,mH,l,cA,P7,d,u,v];simp [gA]
theorem MM {d:Int} {l:List Sm} (h: ∀m∈l,SS V A d m):yB (hJ l++[36]) ([],0)=some (pX 0 l++[36],0):=by
 rw[mH,WS (fun m b T o=>⟨YL (h m b) T o,jL (h m b) _⟩),cA];rw[pY [36] (fun c a=>by rw[bE]at a;subst a;exact⟨by decide,by decide,by decide,by decide⟩)];rfl
theorem Dc (u:dD): ∀x∈jP u,0≤x∧x<4294967296:=fun x a=>by
 obtain⟨c,_,rfl⟩:=lJ.1 a;have:=Vr c;omega
theorem P6 {N:Nat} (a:N≤3000): ∀{l:List Sm} {b:Nat},(∀m∈l, ∀b,b+(oW m).length≤N→ ∀x∈yI b m,0≤x∧x<4294967296)→b+(hJ l).length≤N→ ∀x∈pX b l,0≤x∧x<4294967296
 |[],_,_,_,x,hx=>by simp [pX]at hx
 |m::l,b,h,hb,x,hx=>by
  rw[hJ,aB]at hb;rw[pX,eU]at hx;rcases hx with hx|hx
  ·exact h m (dU) b (by omega) x hx
  exact P6 a (fun y c=>h y (fC _ c)) (by omega) x hx
theorem VJ {N:Nat} (j:N≤3000) {g:Int} {m:Sm} (h:SS V A g m): ∀b,b+(oW m).length≤N→ ∀x∈yI b m,0≤x∧x<4294967296:=by
 have f: ∀k:Int,0≤k∧k<4294967296→ ∀x∈[k],0≤x∧x<4294967296:=fun k n x i=>by rw[bE]at i;subst i;exact n
 have Rr: ∀{a b:List Int},(∀x∈a,0≤x∧x<4294967296)→(∀x∈b,0≤x∧x<4294967296)→ ∀x∈a++b,0≤x∧x<4294967296:=fun l d x i=>by
  rcases eU.1 i with h|h
  ·exact l x h
  exact d x h
 induction h with
 |set g c e hl hc hV he=>intro b d;rw[Y5];have:=Vr c;exact Rr (Dc _) (Rr (f _ (by decide)) (f _ (by omega)))
 |store g a e hl hA l he=>intro b d;rw[Y4];exact Rr (Dc _) (Rr (Dc _) (f _ (by decide)))
 |put g e hl he=>intro b d;rw[Y3];exact Rr (Dc _) (f _ (by decide))
 |cond g e t hl he ht ih=>
  intro b d;rw[C4]at d;simp only[aB,aM,aU]at d;rw[Y2];exact Rr (Dc _) (Rr (f _ (by omega)) (Rr (P6 j ih (by omega)) (f _ (by decide))))
 |loop g e t hl he ht ih=>
  intro b d;rw[C3]at d;simp only[aB,aM,aU]at d;rw[Y1];exact Rr (f _ (by decide)) (Rr (Dc _) (Rr (f _ (by omega)) (Rr (P6 j ih (by omega)) (f _ (by decide)))))
end
end
section
variable {V : UInt8 → Prop} {A : Prop} {rs : dD → Bool × Int} {W : List Int} {cx : Cx} {inp : dD}
theorem QK {q d n:Nat} {x:Int} {s:Mc} (f:yD W (4 *q) (zD ((d+1:Nat):Int) (gB 19 2 0 (4 *(n:Int)+4)) (d:Int))) (k:s.mem[d+2]?=some x) (e:s.pc=((4 *q:Nat):Int)) (hd:d≤90) (l:n≤3000) (c:s.mem.length=4224):
  (x=0→ ∃a,Go W inp 3 s a∧a.pc=((4 *(n+1):Nat):Int)∧a.mem=s.mem∧a.rd=s.rd∧a.out=s.out)∧(x≠0→ ∃a,Go W inp 4 s a∧a.pc=((4 *(q+1):Nat):Int)∧a.mem=s.mem∧a.rd=s.rd∧a.out=s.out):=by
 have j:(s.hd q (d+1)).r 2=x:=Mc.m_some k
 have b:uD inp 19 2 0 (4 *(n:Int)+4) (s.hd q (d+1))=some (0,if x=0 then(s.hd q (d+1)).to (4 *(n:Int)+4)else(s.hd q (d+1)).nx):=by
  simp only[uD,j];rfl
 refine⟨fun h=>?_,fun h=>?_⟩
 ·obtain⟨k1,i⟩:=Ag (inp:=inp) f (by omega) e (by omega) c
  rw[b,bD h]at i;exact⟨_,k1.app (.one i),by show(4 *(n:Int)+4)=_;omega,rfl,rfl,rfl⟩
 rw[aJ h]at b;have g:=It f (by omega) e (by omega) (by omega) c b (by show((4 *q+2:Nat):Int)+1=_;omega) c;refine⟨_,g,rfl, ?_,rfl,rfl⟩;show s.mem.set (d+1) (s.m (d+1))=s.mem;exact zU (Mc.m_get (by omega))
theorem NC {q d p:Nat} {s:Mc} (i:yD W (4 *q) (zD ((d+1:Nat):Int) (gB 22 2 0 0) (d:Int))) (j:s.mem[d+2]?=some ((4 *p:Nat):Int)) (g:s.pc=((4 *q:Nat):Int)) (hd:d≤90) (f:s.mem.length=4224):
  ∃a,Go W inp 3 s a∧a.pc=((4 *p:Nat):Int)∧a.mem=s.mem∧a.rd=s.rd∧a.out=s.out:=by
 have c:(s.hd q (d+1)).r 2=((4 *p:Nat):Int):=Mc.m_some j;obtain⟨k1,b⟩:=Ag (inp:=inp) i (by decide) g (by omega) f;have e:uD inp 22 2 0 0 (s.hd q (d+1))=some (0,(s.hd q (d+1)).to ((4 *p:Nat):Int)):=by simp only[uD,c];rfl
 rw[e]at b;exact⟨_,k1.app (.one b),rfl,rfl,rfl,rfl⟩
theorem SE {q d:Nat} {x:Int} {s:Mc} (f:yD W (4 *q) (zD ((d+1:Nat):Int) (gB 24 2 0 0) (d:Int))) (k:s.mem[d+2]?=some x) (e:s.pc=((4 *q:Nat):Int)) (hd:d≤90) (c:s.mem.length=4224):
  (s.out.length<65536→ ∃a,Go W inp 4 s a∧a.pc=((4 *(q+1):Nat):Int)∧a.mem=s.mem∧a.rd=s.rd∧a.out=s.out++[UInt8.ofNat (IntKind.wrap .u8 x).toNat])∧(¬s.out.length<65536→ ∃a,Fin W inp 2 s 4 a∧a.out=s.out):=by
 have j:(s.hd q (d+1)).r 2=x:=Mc.m_some k
 have b:uD inp 24 2 0 0 (s.hd q (d+1))=if 65536≤s.out.length then some (4,(s.hd q (d+1)).stp)else some (0,{(s.hd q (d+1)).nx with out:=s.out++[UInt8.ofNat (IntKind.wrap .u8 x).toNat]}):=by
  simp only[uD,j];rfl
 refine⟨fun h=>?_,fun h=>?_⟩
 ·rw[aJ (by omega)]at b
  have g:=It f (by decide) e (by omega) (by omega) c b (by show((4 *q+2:Nat):Int)+1=_;omega) c;refine⟨_,g,rfl, ?_,rfl,rfl⟩;show s.mem.set (d+1) (s.m (d+1))=s.mem;exact zU (Mc.m_get (by omega))
 obtain⟨k1,i⟩:=Ag (inp:=inp) f (by decide) e (by omega) c;rw[b,bD (by omega)]at i;exact⟨_,⟨_,k1,i⟩,rfl⟩
theorem SD {q d c:Nat} {x:Int} {s:Mc} (l:yD W (4 *q) (zD ((d+1:Nat):Int) (gB 17 2 0 (c:Int)) (d:Int))) (n:s.mem[d+2]?=some x) (k:s.pc=((4 *q:Nat):Int)) (hd:d≤90) (o:97≤c∧c≤122) (b:s.mem.length=4224):
  ∃a,Go W inp 4 s a∧a.pc=((4 *(q+1):Nat):Int)∧a.mem=s.mem.set c x∧a.rd=s.rd∧a.out=s.out:=by
 have f:(s.hd q (d+1)).r 2=x:=Mc.m_some n;have e:gR ((s.hd q (d+1)).r 0+(c:Int))=(c:Int):=by show gR (0+(c:Int))=_;rw[Int.zero_add,eN (by omega)]
 have j:(s.hd q (d+1)).mem.length=4224:=b
 have i:uD inp 17 2 0 (c:Int) (s.hd q (d+1))=some (0,{(s.hd q (d+1)).nx with mem:=s.mem.set c x}):=by
  simp only[uD,f,e,cB,j,show c<4224 by omega,cQ];rfl
 have g:=It l (by omega) k (by omega) (by omega) b i (by show((4 *q+2:Nat):Int)+1=_;omega) (by show(s.mem.set c x).length=_;rw[dJ];exact b);refine⟨_,g,rfl, ?_,rfl,rfl⟩;show(s.mem.set c x).set (d+1) (s.m (d+1))=s.mem.set c x;refine zU ?_;rw[gX (by omega),aJ (by omega)];exact Mc.m_get (by omega)
theorem NE {q d:Nat} {x v:Int} {s:Mc} (f:yD W (4 *q) [gB 16 2 0 (((d+2:Nat):Int)+1),gB 16 1 0 ((d+2:Nat):Int),gB 25 1 0 4096,gB 17 2 1 128]) (D:s.mem[d+2]?=some x) (E:0≤x) (C:s.mem[d+3]?=some v) (B:s.pc=((4 *q:Nat):Int)) (hd:d≤90) (i:s.mem.length=4224):
  (x<4096→ ∃a,Go W inp 4 s a∧a.pc=((4 *(q+1):Nat):Int)∧a.mem=s.mem.set (128+x.toNat) v∧a.rd=s.rd∧a.out=s.out)∧(¬x<4096→ ∃a,Fin W inp 2 s 3 a∧a.out=s.out):=by
 have o:W[4 *q]?=some (gB 16 2 0 ((d+2+1:Nat):Int)):=f 0 (by simp);have t:W[4 *q+1]?=some (gB 16 1 0 ((d+2:Nat):Int)):=f 1 (by simp);have u:W[4 *q+2]?=some (gB 25 1 0 4096):=f 2 (by simp);have y:W[4 *q+3]?=some (gB 17 2 1 128):=f 3 (by simp);have b:=Tu (inp:=inp) (d:=d+2) B o t (by omega) i;have b:Go W inp 2 s (s.hd q (d+2)):=b;have g:(s.hd q (d+2)).r 1=x:=Mc.m_some D;have j:(s.hd q (d+2)).r 2=v:=Mc.m_some C
 have c:nC W inp (s.hd q (d+2))=if x<4096 then some (0,(s.hd q (d+2)).nx)else some (3,(s.hd q (d+2)).stp):=by
  rw[mO (p:=4 *q+2) rfl u (by decide)];simp only[uD,g];rfl
 refine⟨fun h=>?_,fun h=>?_⟩
 ·rw[bD h]at c
  have n:nC W inp (s.hd q (d+2)).nx=some (0,{(s.hd q (d+2)).nx.nx with mem:=s.mem.set (128+x.toNat) v}):=by
   rw[mO (p:=4 *q+3) (by show((4 *q+2:Nat):Int)+1=_;omega) y (by decide)];have k:(s.hd q (d+2)).nx.r 1=x:=g;have l:(s.hd q (d+2)).nx.r 2=v:=j;have e:(gR (x+128)).toNat=128+x.toNat:=by rw[eN (by omega)];omega
   have z:(s.hd q (d+2)).nx.mem.length=4224:=i;simp only[uD,k,l,e,z,show 128+x.toNat<4224 by omega,cQ];rfl
  exact⟨_,b.app (.step c (.one n)),by show((4 *q+2:Nat):Int)+1+1=_;omega,rfl,rfl,rfl⟩
 rw[aJ h]at c;exact⟨_,⟨_,b,c⟩,rfl⟩
theorem LI {N:Nat}: ∀{l:List Sm} {q d:Nat},(∀m∈l, ∀q,q+(oW m).length≤N→(iL (yI q m) q (zl d 0)).1=zl (d:Int) 0∧(yI q m).length=(oW m).length)→q+(hJ l).length≤N→(iL (pX q l) q (zl d 0)).1=zl (d:Int) 0
 |[],_,_,_,_=>rfl
 |m::l,q,d,h,hq=>by
  rw[hJ,aB]at hq;obtain⟨a,b⟩:=h m (dU) q (by omega);rw[pX,iK,a,b];exact LI (fun x c=>h x (fC _ c)) (by omega)
theorem LG {N:Nat} (k:N≤3000) {f:Int} {m:Sm} (h:SS V A f m): ∀(q d:Nat),(d:Int)+1≤f→q+(oW m).length≤N→(iL (yI q m) q (zl d 0)).1=zl (d:Int) 0:=by
 induction h with
 |set f c e hl hc hV he=>
  intro q d hd b;have l:97≤c.toNat∧c.toNat≤122:=by simp only[Nq,aX,bP]at hc;exact hc
  rw[Y5,iK,lW he q d (by omega),iK,eL 58,(Vi (by omega)).2,eL,(QR (by omega) (by omega)).2,show(((d+1:Nat):Int)- 1)=(d:Int)by omega]
 |store f a e hl hA ha he=>
  intro q d hd b;rw[Y4,iK,lW ha q d (by omega),iK,lW he _ (d+1) (by omega),eL,(B1 (by omega)).2,show(((d+1+1:Nat):Int)- 2)=(d:Int)by omega]
 |put f e hl he=>
  intro q d hd b;rw[Y3,iK,lW he q d (by omega),eL,(pJ (A:=941621248) (X:=gB 24 2 0 0) (g:=1) (by decide) (by decide) (by decide) (by decide) (by decide) (by decide) (by omega) (by omega)).2,show(((d+1:Nat):Int)+1 - 2)=(d:Int)by omega]
 |cond f e t hl he ht ih=>
  intro q d hd b;rw[C4]at b;simp only[aB,aM,aU]at b;have j:=LI (N:=N) (q:=q+(fO e).length+1) (d:=d) (fun m i q b=>⟨ih m i q d (by omega) b,jL (ht m i) q⟩) (by omega);rw[Y2,iK,lW he q d (by omega),iK,eL,(Na (by omega) (by omega)).2,show(((d+1:Nat):Int)- 1)=(d:Int)by omega,iK,gE];rw[show q+(fO e).length+[857735172+4 *((q+(fO e).length+1+(hJ t).length:Nat):Int)].length=q+(fO e).length+1 from rfl,j,eL];rw[(pJ (A:=1125253120) (X:=gB 3 1 2 0) (g:=2) (by decide) (by decide) (by decide) (by decide) (by decide) (by decide) (by omega) (by omega)).2,show((d:Int)+2 - 2)=(d:Int)by omega]
 |loop f e t hl he ht ih=>
  intro q d hd b;rw[C3]at b;simp only[aB,aM,aU]at b;have j:=LI (N:=N) (q:=q+1+(fO e).length+1) (d:=d+1) (fun m i q b=>⟨ih m i q (d+1) (by omega) b,jL (ht m i) q⟩) (by omega);rw[Y1,iK,eL,(Vh (by omega) (by omega)).2];rw[show zl ((d:Int)+1) 0=zl ((d+1:Nat):Int) 0 from rfl,show q+[(87:Int)].length=q+1 from rfl,iK,lW he (q+1) (d+1) (by omega),gE,iK,eL,(Na (by omega) (by omega)).2,show(((d+1+1:Nat):Int)- 1)=((d+1:Nat):Int)by omega,iK];rw[show q+1+(fO e).length+[857735172+4 *((q+1+(fO e).length+1+(hJ t).length:Nat):Int)].length=q+1+(fO e).length+1 from rfl,j,eL];rw[(pJ (A:=908066816) (X:=gB 22 2 0 0) (g:=1) (by decide) (by decide) (by decide) (by decide) (by decide) (by decide) (by omega) (by omega)).2,show(((d+1:Nat):Int)+1 - 2)=(d:Int)by omega]
end
def SR (V:UInt8→Prop) (A:Prop) (rs:dD→Bool×Int) (W:List Int) (cx:Cx) (q2 B d M tk:Nat) (s:Mc):Rz (Option Int×List Int)→Prop
 | .val p st'=>p=(none,[])∧ ∃k s',k+M *tk≤B+M *st'.ticks∧Go W cx.inp k s s'∧s'.pc=((4 *q2:Nat):Int)∧MR V A rs st' s'∧ ∀j,j<d+2→s'.mem[j]?=s.mem[j]?
 | .fin x st'=>x≠0∧(x=5∨ ∃k s',k+1+M *tk≤B+M *st'.ticks∧Fin W cx.inp k s x s'∧s'.out=st'.out)
structure Gt (V:UInt8→Prop) (A:Prop) (rs:dD→Bool×Int) (W:List Int) (cx:Cx) (N M n:Nat):Prop where
 S: ∀{lv:Int} {m:Sm},SS V A lv m→ ∀(q d:Nat) (st:RS) (s:Mc) (r:Rz (Option Int×List Int)),(d:Int)+1≤lv→q+(oW m).length≤N→yD W (4 *q) (iL (yI q m) q (zl d 0)).2→s.pc=((4 *q:Nat):Int)→MR V A rs st s→pQ cx n rs [] m st=some r→SR V A rs W cx (q+(oW m).length) (4 *(oW m).length) d M st.ticks s r
 L: ∀{lv:Int} {l:List Sm},(∀m∈l,SS V A lv m)→ ∀(q d:Nat) (st:RS) (s:Mc) (r:Rz (Option Int×List Int)),(d:Int)+1≤lv→q+(hJ l).length≤N→yD W (4 *q) (iL (pX q l) q (zl d 0)).2→s.pc=((4 *q:Nat):Int)→MR V A rs st s→nZ cx n rs [] l st=some r→SR V A rs W cx (q+(hJ l).length) (4 *(hJ l).length) d M st.ticks s r
 Wh: ∀{lv:Int} {e:Ex} {t:List Sm},SX V A (lv+1) e→(∀m∈t,SS V A (lv+1) m)→lv≤24→ ∀(q d:Nat) (st:RS) (s:Mc) (r:Rz (Option Int×List Int)),(d:Int)+1≤lv→q+(oW (.mk 5 [] [e] t [])).length≤N→yD W (4 *q) (iL (yI q (.mk 5 [] [e] t [])) q (zl d 0)).2→s.pc=((4 *q:Nat):Int)→MR V A rs st s→zF cx n rs [] e t st=some r→SR V A rs W cx (q+(oW (.mk 5 [] [e] t [])).length) 0 d M st.ticks s r
section
variable {V : UInt8 → Prop} {A : Prop} {rs : dD → Bool × Int} {W : List Int} {cx : Cx}
theorem MR.same {st st':RS} {s s':Mc} (h:MR V A rs st s) (b:s'.mem=s.mem) (k:s'.rd=s.rd) (j:s'.out=s.out) (d:st'.vars=st.vars) (e:st'.arrs=st.arrs) (f:st'.read=st.read) (g:st'.out=st.out):MR V A rs st' s':=
 ⟨by rw[b];exact h.len,by rw[k,f];exact h.rd,by rw[j,g];exact h.out,fun c i=>by rw[d,b];exact h.vars c i,fun a=>by rw[e,b];exact h.arr a⟩
theorem UR (hN:Nm V A rs) {N M n:Nat} (K:N≤3000) (E:Gt V A rs W cx N M n) {F:Int} {l:List Sm} (h: ∀m∈l,SS V A F m) (q d:Nat) (st:RS) (s:Mc) (r:Rz (Option Int×List Int)) (hd:(d:Int)+1≤F) (R:q+(hJ l).length≤N) (D:yD W (4 *q) (iL (pX q l) q (zl d 0)).2) (C:s.pc=((4 *q:Nat):Int)) (z:MR V A rs st s) (a:nZ cx (n+1) rs [] l st=some r):SR V A rs W cx (q+(hJ l).length) (4 *(hJ l).length) d M st.ticks s r:=by
 cases l with
 |nil=>
  simp only[nZ,Option.some.injEq]at a;subst a;exact⟨rfl,0,s,by omega, .nil s,by rw[C];rfl,z,fun _ _=>rfl⟩
 |cons m l=>
  have i:=h m (dU);have Q:=jL i q;rw[hJ,aB]at R;simp only[nZ]at a;rw[pX]at D;obtain⟨w1,G⟩:=jM D;rw[Q,LG K i q d hd (by omega)]at G;rw[hJ,aB]
  cases b:pQ cx n rs [] m st with
  |none=>rw[b]at a;cases a
  |some ra=>
  rw[b]at a;have e:=E.S i q d st s ra hd (by omega) w1 C z b
  cases ra with
  |fin x st1=>
   simp only[bindR,Option.some.injEq]at a;subst a;obtain⟨v,e⟩:=e;refine⟨v, ?_⟩;rcases e with f|⟨k,u,O,g,o⟩
   ·exact .inl f
   exact .inr ⟨k,u,by omega,g,o⟩
  |val p st1=>
   obtain⟨rfl,k,Z,O,y,H,I,J⟩:=e;simp only[bindR]at a;have c:=E.L (fun x b=>h x (fC _ b)) (q+(oW m).length) d st1 Z r hd (by omega) G H I a
   cases r with
   |fin x st2=>
    obtain⟨v,c⟩:=c;refine⟨v, ?_⟩;rcases c with f|⟨t,u,P,g,o⟩
    ·exact .inl f
    exact .inr ⟨k+t,u,by omega,Fin.after y g,o⟩
   |val p st2=>
    obtain⟨rfl,t,s2,P,T,U,X,Y⟩:=c;exact⟨rfl,k+t,s2,by omega,y.app T,by rw[U,gA],X,fun j B=>by rw[Y j B,J j B]⟩
theorem UQ (K:Nm V A rs) {N M n:Nat} (a4:N≤3000) (ih:Gt V A rs W cx N M n) {lv:Int} {m:Sm} (h:SS V A lv m) (q d:Nat) (st:RS) (s:Mc) (r:Rz (Option Int×List Int)) (hd:(d:Int)+1≤lv) (hq:q+(oW m).length≤N) (R:yD W (4 *q) (iL (yI q m) q (zl d 0)).2) (hp:s.pc=((4 *q:Nat):Int)) (hM:MR V A rs st s) (f:pQ cx (n+1) rs [] m st=some r):SR V A rs W cx (q+(oW m).length) (4 *(oW m).length) d M st.ticks s r:=by
 cases h with
 |set _ c e hl hc hV he=>
  have a6:=K.lt c hV;rw[Y5]at R;obtain⟨w1,u⟩:=jM R;rw[lW he q d (by omega),gE]at u;obtain⟨u,P⟩:=jM u;rw[eL,(Vi (by omega)).1]at u;rw[eL 58,(Vi (by omega)).2,eL,(QR (by omega) (by omega)).1,show(((d+1:Nat):Int)- 1)=(d:Int)by omega]at P;simp only[pQ,cQ,eS]at f;rw[RD,aB]
  cases z:kR cx n rs [] e st with
  |none=>rw[z]at f;cases f
  |some ra=>
  rw[z]at f;have J:=Ov K he q d n st s ra (by omega) w1 hp hM z
  cases ra with
  |fin x st1=>
   simp only[bindR,Option.some.injEq]at f;subst f;obtain⟨o,H,x5,k,G,hk,E,F⟩:=J;exact⟨H, .inr ⟨k,G,by rw[o];omega,E,F⟩⟩
  |val x st1=>
   obtain⟨o,U,k,s1,hk,I,g2,l,g4,T⟩:=J;obtain⟨l1,l2⟩:=K.gl c hV;obtain⟨v0,v1,_,_⟩:=l.vars c hV;have a3:=(bF.1 v1).1;simp only[bindR,Sr,l1,l2,cQ,cF,dC,a3,eD,Option.some.injEq]at f;subst f;obtain⟨O,Y,j2,B,j4,j5⟩:=Tt (inp:=cx.inp) u g2 (by omega) l.len;obtain⟨Z,k1,C,k3,k4,S⟩:=SD (inp:=cx.inp) (x:=x) P (by rw[B];exact g4) j2 (by omega) a6 (by rw[B];exact l.len);rw[B]at k3;refine⟨rfl,k+4+4,Z, ?_,(I.app Y).app k1, ?_, ?_,fun j D=>?_⟩
   ·show k+4+4+M *st.ticks≤_+M *st1.ticks
    rw[o];simp only[aM,aU];omega
   ·rw[C];simp only[aM,aU];simp only[gA]
   ·refine⟨by rw[k3,dJ];exact l.len,by rw[k4,j4];exact l.rd,by rw[S,j5];exact l.out,fun Q a0=>?_,fun hA=>?_⟩
    ·obtain⟨l3,l4⟩:=K.gl Q a0
     have a2:=l.len;by_cases e:Q=c
     ·subst e
      exact⟨x,by show(st1.vars.set _ x)[_]?=_;rw[gX a3,bD rfl],U,by rw[k3,gX (by omega),bD rfl]⟩
     have a7: ¬((rs [c]).2).toNat=((rs [Q]).2).toNat:=fun e2=>e (K.inj Q c a0 hV (by omega));have a8: ¬c.toNat=Q.toNat:=fun e2=>e (by rw[←UInt8.toNat_inj];exact e2.symm);obtain⟨v,p1,p2,p3⟩:=l.vars Q a0;exact⟨v,by show(st1.vars.set _ x)[_]?=_;rw[gX a3,aJ a7];exact p1,p2,by rw[k3,gX (by omega),aJ a8];exact p3⟩
    obtain⟨L,L1,L2,L3⟩:=l.arr hA;have a2:=l.len;refine⟨L,L1,L2,fun j D=>?_⟩;obtain⟨v,p1,p2,p3⟩:=L3 j D;exact⟨v,p1,p2,by rw[k3,gX (by omega),aJ (by omega)];exact p3⟩
   have a2:=l.len;rw[k3,gX (by omega),aJ (by omega)];exact T j D
 |store _ a e hl hA ha he=>
  rw[Y4]at R;obtain⟨w1,u⟩:=jM R;rw[lW ha q d (by omega),gE]at u;obtain⟨u,P⟩:=jM u;rw[lW he _ (d+1) (by omega),gE,eL,(B1 (by omega)).1]at P;simp only[pQ,Int.reduceEq,cQ,dC,eS,kU,K.ar hA]at f;rw[RB,aB,aB,bS]
  cases z:kR cx n rs [] a st with
  |none=>rw[z]at f;cases f
  |some ra=>
  rw[z]at f;have J:=Ov K ha q d n st s ra (by omega) w1 hp hM z
  cases ra with
  |fin x st1=>
   simp only[bindR,Option.some.injEq]at f;subst f;obtain⟨o,H,x5,k,G,hk,E,F⟩:=J;exact⟨H, .inr ⟨k,G,by rw[o];omega,E,F⟩⟩
  |val x st1=>
  obtain⟨o,U,k,s1,hk,I,g2,l,g4,T⟩:=J;simp only[bindR]at f
  cases hy:kR cx n rs [] e st1 with
  |none=>rw[hy]at f;cases f
  |some rb=>
  rw[hy]at f;have hF:=Ov K he (q+(fO a).length) (d+1) n st1 s1 rb (by omega) u g2 l hy
  cases rb with
  |fin y st2=>
   simp only[Option.some.injEq]at f;subst f;obtain⟨t2,H,x5,C,G,b4,E,F⟩:=hF;exact⟨H, .inr ⟨k+C,G,by rw[t2,o];omega,Fin.after I E,F⟩⟩
  |val y st2=>
   obtain⟨t2,hv,j,O,D,Y,j2,B,j4,j5⟩:=hF;obtain⟨L,L1,L2,L3⟩:=B.arr hA;simp only[U1,Int.toNat_zero,L1,L2,Int.le_refl,cQ]at f;have b0:O.mem[d+2]?=some x:=by rw[j5 _ (by omega)];exact g4
   obtain⟨b1,b2⟩:=NE (inp:=cx.inp) (d:=d) P b0 U.1 j4 j2 (by omega) B.len;by_cases c:x<4096
   ·rw[bD (by have:=U.1;omega)]at f
    simp only[Option.some.injEq]at f;subst f;obtain⟨Z,k1,C,k3,k4,S⟩:=b1 c;have a2:=B.len;have b5:=U.1;refine⟨rfl,k+j+4,Z, ?_,(I.app Y).app k1,by rw[C];simp only[gA], ?_,fun i hi=>?_⟩
    ·show k+j+4+M *st.ticks≤_+M *st2.ticks
     rw[t2,o];omega
    ·refine⟨by rw[k3,dJ];exact B.len,by rw[k4];exact B.rd,by rw[S];exact B.out,fun Q a0=>?_,fun hA=>?_⟩
     ·obtain⟨v,p1,p2,p3⟩:=B.vars Q a0
      have:=K.lt Q a0;exact⟨v,p1,p2,by rw[k3,gX (by omega),aJ (by omega)];exact p3⟩
     have a9:(Si 0 x.toNat y st2).arrs[0]?=some (L.set x.toNat y):=by
      show(st2.arrs.modify (0:Int).toNat _)[0]?=_;rw[Int.toNat_zero,Uy,L1];rfl
     refine⟨_,a9,by rw[dJ];exact L2,fun i hi=>?_⟩;by_cases e:x.toNat=i
     ·subst e
      exact⟨y,by rw[gX (by omega),bD rfl],hv,by rw[k3,gX (by omega),bD rfl]⟩
     obtain⟨v,p1,p2,p3⟩:=L3 i hi;exact⟨v,by rw[gX (by omega),aJ e];exact p1,p2,by rw[k3,gX (by omega),aJ (by omega)];exact p3⟩
    rw[k3,gX (by omega),aJ (by omega),j5 i (by omega),T i hi]
   rw[aJ (by have:=U.1;omega)]at f;simp only[Option.some.injEq]at f;subst f;obtain⟨Z,k1,C⟩:=b2 c;exact⟨by decide, .inr ⟨k+j+2,Z,by rw[t2,o];omega,Fin.after (I.app Y) k1,by rw[C,B.out]⟩⟩
 |put _ e hl he=>
  rw[Y3]at R;obtain⟨w1,u⟩:=jM R;rw[lW he q d (by omega),gE,eL,(pJ (A:=941621248) (X:=gB 24 2 0 0) (g:=1) (by decide) (by decide) (by decide) (by decide) (by decide) (by decide) (by omega) (by omega)).1,show(((d+1:Nat):Int)+1 - 2)=(d:Int)by omega]at u;simp only[pQ,Int.reduceEq,cQ,dC,eS]at f;rw[RA,aB,bS]
  cases z:kR cx n rs [] e st with
  |none=>rw[z]at f;cases f
  |some ra=>
  rw[z]at f;have J:=Ov K he q d n st s ra (by omega) w1 hp hM z
  cases ra with
  |fin x st1=>
   simp only[bindR,Option.some.injEq]at f;subst f;obtain⟨o,H,x5,k,G,hk,E,F⟩:=J;exact⟨H, .inr ⟨k,G,by rw[o];omega,E,F⟩⟩
  |val x st1=>
   obtain⟨o,U,k,s1,hk,I,g2,l,g4,T⟩:=J;obtain⟨b1,b2⟩:=SE (inp:=cx.inp) (x:=x) u g4 g2 (by omega) l.len;simp only[bindR,Ia]at f;have a1:=l.out;by_cases c:65536≤st1.out.length
   ·rw[bD c]at f
    simp only[Option.some.injEq]at f;subst f;obtain⟨O,k1,C⟩:=b2 (by rw[a1];omega);exact⟨by decide, .inr ⟨k+2,O,by rw[o];omega,Fin.after I k1,by rw[C,a1]⟩⟩
   rw[aJ c]at f;simp only[Option.some.injEq]at f;subst f;obtain⟨O,k1,C,k3,k4,S⟩:=b1 (by rw[a1];omega);refine⟨rfl,k+4,O, ?_,I.app k1,by rw[C,gA], ?_,fun j D=>by rw[k3];exact T j D⟩
   ·show k+4+M *st.ticks≤_+M *st1.ticks
    rw[o];omega
   exact⟨by rw[k3];exact l.len,by rw[k4];exact l.rd,by rw[S,a1],fun c hc=>by rw[k3];exact l.vars c hc,fun a=>by rw[k3];exact l.arr a⟩
 |cond _ e t hl he ht=>
  rw[C4]at hq;simp only[aB,aM,aU]at hq;have a5:=qS (b:=q+(fO e).length+1) fun x z=>jL (ht x z);have b3:=LI (N:=N) (q:=q+(fO e).length+1) (d:=d) (fun m hm q hq=>⟨LG a4 (ht m hm) q d (by omega) hq,jL (ht m hm) q⟩) (by omega);rw[Y2]at R;obtain⟨w1,u⟩:=jM R;rw[lW he q d (by omega),gE]at u;obtain⟨u,P⟩:=jM u;rw[eL,(Na (by omega) (by omega)).1,show(((d+1:Nat):Int)- 1)=(d:Int)by omega]at u;rw[eL,(Na (by omega) (by omega)).2,show(((d+1:Nat):Int)- 1)=(d:Int)by omega,bS]at P;obtain⟨P,w4⟩:=jM P;rw[b3,a5,eL,(pJ (A:=1125253120) (X:=gB 3 1 2 0) (g:=2) (by decide) (by decide) (by decide) (by decide) (by decide) (by decide) (by omega) (by omega)).1,show((d:Int)+2 - 2)=(d:Int)by omega]at w4;simp only[pQ,Int.reduceEq,cQ,dC,eS]at f;rw[C4];simp only[aB,aM,aU]
  cases z:kR cx n rs [] e st with
  |none=>rw[z]at f;cases f
  |some ra=>
  rw[z]at f;have J:=Ov K he q d n st s ra (by omega) w1 hp hM z
  cases ra with
  |fin x st1=>
   simp only[bindR,Option.some.injEq]at f;subst f;obtain⟨o,H,x5,k,G,hk,E,F⟩:=J;exact⟨H, .inr ⟨k,G,by rw[o];omega,E,F⟩⟩
  |val x st1=>
   obtain⟨o,U,k,s1,hk,I,g2,l,g4,T⟩:=J;simp only[bindR]at f;obtain⟨b1,b2⟩:=QK (inp:=cx.inp) (n:=q+(fO e).length+1+(hJ t).length) u g4 g2 (by omega) (by omega) l.len;by_cases c:x=0
   ·rw[bD c]at f
    cases n with
    |zero=>simp [nZ]at f
    |succ n=>
    simp only[nZ,Option.some.injEq]at f;subst f;obtain⟨O,k1,C,k3,k4,S⟩:=b1 c;refine⟨rfl,k+3,O, ?_,I.app k1, ?_,l.same k3 k4 S rfl rfl rfl rfl,fun j D=>by rw[k3];exact T j D⟩
    ·rw[o];omega
    rw[C];congr 2;omega
   rw[aJ c]at f;obtain⟨O,k1,C,k3,k4,S⟩:=b2 c;have hL:=ih.L ht (q+(fO e).length+1) d st1 O r (by omega) (by omega) P C (l.same k3 k4 S rfl rfl rfl rfl) f
   cases r with
   |fin y st2=>
    obtain⟨H,hL⟩:=hL;refine⟨H, ?_⟩;rcases hL with h5|⟨j,G,D,E,F⟩
    ·exact .inl h5
    exact .inr ⟨k+4+j,G,by rw[o]at D;omega,Fin.after (I.app k1) E,F⟩
   |val p st2=>
    obtain⟨rfl,j,Z,D,Y,j2,B,j4⟩:=hL;obtain⟨s4,i1,i2,i3,i4,i5⟩:=Tt (inp:=cx.inp) w4 j2 (by omega) B.len;refine⟨rfl,k+4+j+4,s4, ?_,((I.app k1).app Y).app i1, ?_,B.same i3 i4 i5 rfl rfl rfl rfl,fun i hi=>by rw[i3,j4 i hi,k3];exact T i hi⟩
    ·rw[o]at D;omega
    rw[i2];congr 2;omega
 |loop _ e t hl he ht=>
  simp only[pQ,Int.reduceEq,cQ,dC,eS]at f;have hW:=ih.Wh he ht hl q d st s r hd hq R hp hM f
  cases r with
  |fin y st2=>
   obtain⟨H,hL⟩:=hW;refine⟨H, ?_⟩;rcases hL with h5|⟨j,G,D,E,F⟩
   ·exact .inl h5
   exact .inr ⟨j,G,by omega,E,F⟩
  |val p st2=>
   obtain⟨rfl,j,Z,D,Y,j2,B,j4⟩:=hW;exact⟨rfl,j,Z,by omega,Y,j2,B,j4⟩
theorem UP (hN:Nm V A rs) {N M n:Nat} (a7:N≤3000) (b6:M=4 *N) (ih:Gt V A rs W cx N M n) {K:Int} {e:Ex} {t:List Sm} (Y:SX V A (K+1) e) (D: ∀m∈t,SS V A (K+1) m) (hl:K≤24) (q d:Nat) (st:RS) (s:Mc) (r:Rz (Option Int×List Int)) (hd:(d:Int)+1≤K) (C:q+(oW (.mk 5 [] [e] t [])).length≤N) (Z:yD W (4 *q) (iL (yI q (.mk 5 [] [e] t [])) q (zl d 0)).2) (hp:s.pc=((4 *q:Nat):Int)) (U:MR V A rs st s) (a:zF cx (n+1) rs [] e t st=some r):SR V A rs W cx (q+(oW (.mk 5 [] [e] t [])).length) 0 d M st.ticks s r:=by
 have a9:=C;have b3:=Z;rw[C3]at C⊢;simp only[aB,aM,aU]at C⊢;have a8:=qS (b:=q+1+(fO e).length+1) fun x E=>jL (D x E);have b4:=LI (N:=N) (q:=q+1+(fO e).length+1) (d:=d+1) (fun m hm q C=>⟨LG a7 (D m hm) q (d+1) (by omega) C,jL (D m hm) q⟩) (by omega);rw[Y1]at Z;obtain⟨w1,O⟩:=jM Z;rw[eL,(Vh (by omega) (by omega)).1,show((d:Int)+1)=((d+1:Nat):Int)from rfl]at w1;rw[eL,(Vh (by omega) (by omega)).2,show zl ((d:Int)+1) 0=zl ((d+1:Nat):Int) 0 from rfl,bS]at O;obtain⟨O,G⟩:=jM O;rw[lW Y (q+1) (d+1) (by omega),gE]at G;obtain⟨G,P⟩:=jM G;rw[eL,(Na (by omega) (by omega)).1,show(((d+1+1:Nat):Int)- 1)=((d+1:Nat):Int)by omega]at G;rw[eL,(Na (by omega) (by omega)).2,show(((d+1+1:Nat):Int)- 1)=((d+1:Nat):Int)by omega,bS]at P;obtain⟨P,w5⟩:=jM P;rw[b4,a8,eL,(pJ (A:=908066816) (X:=gB 22 2 0 0) (g:=1) (by decide) (by decide) (by decide) (by decide) (by decide) (by decide) (by omega) (by omega)).1,show(((d+1:Nat):Int)+1 - 2)=(d:Int)by omega]at w5;simp only[zF,nK]at a;by_cases f:cx.fuel≤st.ticks
 ·rw[bD f]at a
  simp only[bindR,Option.some.injEq]at a;subst a;exact⟨by decide, .inl rfl⟩
 rw[aJ f]at a;simp only[bindR]at a
 -- the place of W is put on the stack
 obtain⟨s1,I,a2,a3,a4,a5⟩:=xP (inp:=cx.inp) (e:=d+1) (v:=((4 *q:Nat):Int)) (rd:=s.rd) w1 (by omega) hp (by omega) (by omega) U.len (by
  have :(4 *(q:Int))=((4 *q:Nat):Int):=by omega
  rw[this];rfl)
 obtain⟨p1,p2,p3,p4⟩:=Pm (v:=((4 *q:Nat):Int)) U.len (d:=d) (by omega);rw[←a3]at p1 p2 p3 p4;have a6:MR V A rs {st with ticks:=st.ticks+1} s1:=(U.keep hN p1 p2 a4 a5).same rfl rfl rfl rfl rfl rfl rfl
 cases E:kR cx n rs [] e {st with ticks:=st.ticks+1}with
 |none=>rw[E]at a;cases a
 |some ra=>
 rw[E]at a;have hE:=Ov hN Y (q+1) (d+1) n {st with ticks:=st.ticks+1} s1 ra (by omega) O a2 a6 E;have b7:M *(st.ticks+1)=M *st.ticks+M:=Nat.mul_succ _ _
 cases ra with
 |fin x st1=>
  simp only[Option.some.injEq]at a;subst a;obtain⟨l,H,x5,k,F,hk,f,B⟩:=hE;exact⟨H, .inr ⟨4+k,F,by rw[l];show 4+k+1+M *st.ticks≤0+M *(st.ticks+1);omega,Fin.after I f,B⟩⟩
 |val x st1=>
  obtain⟨l,hu,k,s2,hk,Q,g2,R,g4,S⟩:=hE;have l:st1.ticks=st.ticks+1:=l;simp only at a;have b0:s2.mem[d+2]?=some ((4 *q:Nat):Int):=by rw[S _ (by omega)];exact p3
  obtain⟨b1,b2⟩:=QK (inp:=cx.inp) (d:=d+1) (n:=q+1+(fO e).length+1+(hJ t).length) G g4 g2 (by omega) (by omega) R.len;by_cases c:x=0
  ·rw[bD c]at a
   simp only[Option.some.injEq]at a;subst a;obtain⟨s3,k1,k2,k3,k4,k5⟩:=b1 c;refine⟨rfl,4+k+3,s3, ?_,(I.app Q).app k1, ?_,R.same k3 k4 k5 rfl rfl rfl rfl,fun j z=>by rw[k3,S j (by omega)];exact p4 j z⟩
   ·rw[l];omega
   rw[k2];congr 2;omega
  rw[aJ c]at a;obtain⟨s3,k1,k2,k3,k4,k5⟩:=b2 c
  cases hy:nZ cx n rs [] t st1 with
  |none=>rw[hy]at a;cases a
  |some rb=>
  rw[hy]at a;have o:=ih.L D (q+1+(fO e).length+1) (d+1) st1 s3 rb (by omega) (by omega) P k2 (R.same k3 k4 k5 rfl rfl rfl rfl) hy
  cases rb with
  |fin y st2=>
   simp only[Option.some.injEq]at a;subst a;obtain⟨H,o⟩:=o;refine⟨H, ?_⟩;rcases o with T|⟨j,F,z,f,B⟩
   ·exact .inl T
   exact .inr ⟨4+k+4+j,F,by rw[l]at z;omega,Fin.after ((I.app Q).app k1) f,B⟩
  |val p st2=>
   obtain⟨rfl,j,s4,z,j1,j2,j3,j4⟩:=o;simp only at a;obtain⟨s5,i1,i2,i3,i4,i5⟩:=NC (inp:=cx.inp) (p:=q) w5 (by rw[j4 _ (by omega),k3];exact b0) j2 (by omega) j3.len;have J:=ih.Wh Y D hl q d st2 s5 r hd a9 b3 i2 (j3.same i3 i4 i5 rfl rfl rfl rfl) a;have b5: ∀i,i<d+2→s5.mem[i]?=s.mem[i]?:=fun i u=>by rw[i3,j4 i (by omega),k3,S i (by omega)];exact p4 i u
   rw[C3]at J;simp only[aB,aM,aU]at J;rw[l]at z;have a0:=(((I.app Q).app k1).app j1).app i1
   cases r with
   |fin y st3=>
    obtain⟨H,o⟩:=J;refine⟨H, ?_⟩;rcases o with T|⟨i,F,u,f,B⟩
    ·exact .inl T
    exact .inr ⟨_,F,(by show 4+k+4+j+3+i+1+M *st.ticks≤0+M *st3.ticks;omega),Fin.after a0 f,B⟩
   |val p st3=>
    obtain⟨rfl,i,s6,u,m1,m2,m3,m4⟩:=J;exact⟨rfl,_,s6,(by show 4+k+4+j+3+i+M *st.ticks≤0+M *st3.ticks;omega),a0.app m1,m2,m3,fun i u=>by rw[m4 i u,b5 i u]⟩
theorem YH (a:Nm V A rs) {N M:Nat} (b:N≤3000) (c:M=4 *N) (n:Nat):Gt V A rs W cx N M n:=by
 induction n with
 |zero=>exact⟨fun _ _ _ _ _ _ _ _ _ _ _ h=>by simp [pQ]at h,fun _ _ _ _ _ _ _ _ _ _ _ h=>by simp [nZ]at h,fun _ _ _ _ _ _ _ _ _ _ _ _ _ h=>by simp [zF]at h⟩
 |succ n ih=>exact⟨UQ a b ih,UR a b ih,UP a b c ih⟩
end
section
variable {cx : Cx} {r v : Nat} {abs : List Nat} {st : RS} {vo : AV} {H : Hp}
end
section
variable {cx : Cx} {r v : Nat} {abs : List Nat} {st : RS} {vo : AV} {H : Hp}
end
section
variable {cx : Cx} {r v : Nat} {abs : List Nat} {n : Nat}
end
section
variable {cx : Cx} {r v : Nat} {abs : List Nat} {n : Nat}
def Pi (cx:Cx) (n:Nat) (f:Cf) (len:Nat) (vs:List Int) (st:RS):Option (Rz Int):=
 bindR (some (nK cx st)) fun _ st=>bindR (nZ cx n f.res (vs++List.replicate (f.words-len) 0) f.body st) fun r st=>some (.val (r.1.getD 0) st)
end
section
variable {cx : Cx} {r v : Nat} {abs : List Nat} {n : Nat}
end
section
variable {cx : Cx} {r v : Nat} {abs : List Nat} {n : Nat}
end
def UX (e:Int) (out:dD) (t:Nat):AV:= .agg [.int .i64 e, .str out, .int .i64 t]
end Go.Proofs.YtaecpjgmcffliaaGreatDoor
namespace Go.Al
structure Vd (b7 bv:Nat) (bs:List Nat) (A:List (List Int)) (va:AV) (H:Hp):Prop where
 l:bs.length=A.length
 o:eB 1 va (fR bs A) H
 a: ∀(i:Nat) b l,bs[i]?=some b→A[i]?=some l→H b=some (.rows 1 (l.map gI))
 nd:bs.Nodup
 nv:bv∉bs
 n7:b7∉bs
 ov:off va bv
 o7:off va b7
 ob: ∀b∈bs,off va b
theorem Vd.some {e f:Nat} {c:List Nat} {A:List (List Int)} {k:AV} {H:Hp} (h:Vd e f c A k H) {b:Nat} (g:b∈c): ∃l,H b=some (.rows 1 l):=by
 obtain⟨i,d⟩:=jB g;have j:i<A.length:=by have:=(bF.1 d).1;rw[←h.l];exact this
 exact⟨_,h.a i b _ d (aF j)⟩
theorem O9 {sz:Nat} {v:AV} {rows:List (List AV)} {H H':Hp} (h:eB sz v rows H) (d: ∀b o,H b=Option.some o→H' b=Option.some o):eB sz v rows H':=by
 rcases h with g|⟨b,a,c⟩
 ·exact .inl g
 exact .inr ⟨b,a,d _ _ c⟩
theorem Vd.keep {c e:Nat} {d:List Nat} {A:List (List Int)} {g:AV} {H H':Hp} (h:Vd c e d A g H) (f: ∀b o,H b=Option.some o→H' b=Option.some o):Vd c e d A g H':=
 {h with o:=O9 h.o f,a:=fun i b l j k=>f _ _ (h.a i b l j k)}
theorem Av: ∀(a:List Nat) (A:List (List Int)) (b:Nat) (l:List Int),a.length=A.length→fR (a++[b]) (A++[l])=fR a A++[[.osl 1 b l.length]]
 |[],[],_,_,_=>rfl
 |x::a,y::A,b,l,h=>by simp only[cZ,fR,Av a A b l (by simpa using h)]
 |[],_::_,_,_,h=>by simp at h
 |_::_,[],_,_,h=>by simp at h
theorem Vd.snoc {f j:Nat} {d:List Nat} {A:List (List Int)} {t v':AV} {H H':Hp} (h:Vd f j d A t H) {b:Nat} {l:List Int} (z:H b=none) (u:H f≠none) (B:H j≠none) (I:eB 1 v' (fR d A++[[.osl 1 b l.length]]) H')
  (G: ∀x o,upd H b (Option.some (.rows 1 (l.map gI))) x=Option.some o→t≠ .osl 1 x (fR d A).length→H' x=Option.some o) (k: ∀x,off t x→upd H b (Option.some (.rows 1 (l.map gI))) x≠none→off v' x) {g O:Nat} {T:List (List AV)} (D:H' g=Option.some (.rows O T)) (P:iF) (J:O≠1:=by decide):
  Vd f j (d++[b]) (A++[l]) v' (upd H' g (Option.some P)):=by
 have nb: ∀x,H x≠none→x≠b:=fun x hx e=>hx (by rw[e];exact z);have N:off t b:=h.o.new z;have n: ∀x,x≠b→upd H b (Option.some (.rows 1 (l.map gI))) x=H x:=fun x hx=>cH _ _ hx;have v: ∀x∈d,H x≠none:=fun x hx=>by obtain⟨l,c⟩:=h.some hx;rw[c];exact bZ _
 have E:H' b=Option.some (.rows 1 (l.map gI)):=G b _ (bC _ _ _) (N _ _);have C: ∀x p,H' x=Option.some (.rows 1 p)→x≠g:=fun x p hx e=>by rw[e,D]at hx;cases hx;exact J rfl
 have Q:off v' g:=I.offsz D J;refine⟨by simp [h.l],by rw[Av _ _ _ _ h.l];exact I.off Q _,fun i x p hx c=>?_, ?_, ?_, ?_,k j h.ov (by rw[n _ (nb _ B)];exact B),k f h.o7 (by rw[n _ (nb _ u)];exact u),fun x hx=>?_⟩
 ·by_cases F:i<d.length
  ·rw[fU F]at hx
   rw[fU (by rw[←h.l];exact F)]at c;have L:=h.a i x p hx c;have K:=G x _ (by rw[n _ (nb _ (by rw[L];exact bZ _))];exact L) (h.ob x (aW hx) _ _);rw[cH _ _ (C _ _ K)];exact K
  rw[gZ (by omega)]at hx;rw[gZ (by rw[←h.l];omega),←h.l]at c;obtain⟨R,U⟩:=bF.1 hx;have S:i-d.length=0:=by simpa using R
  rw[S]at hx c;simp only[eS,Option.some.injEq]at hx c;subst hx;subst c;rw[cH _ _ (C _ _ E)];exact E
 ·rw[List.nodup_append]
  refine⟨h.nd,by simp,fun x hx y M e=>?_⟩;rw[bE]at M;subst M;subst e;exact v _ hx z
 ·simp only[eU,bE,not_or]
  exact⟨h.nv,nb _ B⟩
 ·simp only[eU,bE,not_or]
  exact⟨h.n7,nb _ u⟩
 rcases eU.1 hx with hx|hx
 ·exact k x (h.ob x hx) (by rw[n _ (nb _ (v x hx))];exact v x hx)
 rw[bE]at hx;subst hx;exact k x N (by rw[bC];exact bZ _)
theorem nV.sub {cx:Cx} {r v:Nat} {abs:List Nat} {st:RS} {vo:AV} {H H':Hp} (h:nV cx r v abs st vo H) (c: ∀b o,H b=Option.some o→H' b=Option.some o):nV cx r v abs st vo H':=
 {h with r:=c _ _ h.r,v:=c _ _ h.v,a:=fun i b l d e=>c _ _ (h.a i b l d e),o:=O9 h.o c}
end Go.Al
namespace Go.Proofs.YtaecpjgmcffliaaGreatDoor
open Go.Al Go.Proofs.Tryz
def zz (a:Ar):List Int:=List.replicate a.size.toNat 0
def B0 (p:Pg) (inp:dD) (fu:Int):Cx:=⟨p.funs.map (Jj (lV p)),inp,(if fu<0 then 0 else fu).toNat⟩
structure KY (p:Pg):Prop where
 ok:p.ok
 n:(kN p).Nodup
 nl: ∀f∈p.funs,(gO f).Nodup
 v:p.vars.length≤10000
 a:p.arrs.length≤10000
 f:p.funs.length≤10000
 f1:1≤p.funs.length
 fs: ∀f∈p.funs,f.params.length≤10000∧f.locs.length≤1100000∧sS f.body≤1000000
 sz: ∀a∈p.arrs,0≤a.size∧a.size≤4096
end Go.Proofs.YtaecpjgmcffliaaGreatDoor
namespace Go.Al
theorem tN (s:dD): ∀A B:List Pl,vJ (A++B) s=match vJ A s with |some r=>some r|none=>vJ B s
 |[],B=>rfl
 |t::A,B=>by
  simp only[cZ,vJ];split
  ·rfl
  exact tN s A B
theorem oR (b:Bool) (s:dD): ∀(l:List dD) (i:Nat),vJ (RL b i l) s=(cX l s).map fun k=>(b,((i+k:Nat):Int))
 |[],_=>rfl
 |x::l,i=>by
  simp only[RL,vJ,cX];by_cases h:s=x
  ·subst h;simp
  rw[aJ h,aJ (fun e=>h e.symm),oR b s l (i+1)]
  cases cX l s with
  |none=>rfl
  |some k=>simp only[eD];congr 3;omega
theorem yX (s:dD): ∀A B:List dD,cX (A++B) s=match cX A s with |some k=>some k|none=>(cX B s).map (· +A.length)
 |[],B=>by
  simp only[cC,cX,aU];cases cX B s<;>rfl
 |x::A,B=>by
  simp only[cZ,cX];split
  ·rfl
  rw[yX s A B]
  cases cX A s with
  |some k=>rfl
  |none=>
   cases cX B s with
   |none=>rfl
   |some k=>simp only[eD,aM];congr 1
theorem MB {p:Pg} {i:Nat} {f:Fu} (l:p.funs[i]?=some f) (s:dD):Wy (lV p) (Vg f) s=(decide ((eR p i s).1=1),if(eR p i s).1=0 then 0 else(eR p i s).2)∧
  ((eR p i s).1=1→0≤(eR p i s).2∧(eR p i s).2<((f.params.length+f.locs.length:Nat):Int))∧((eR p i s).1=2→0≤(eR p i s).2∧(eR p i s).2<(p.vars.length:Int))∧((eR p i s).1=3→0≤(eR p i s).2∧(eR p i s).2<(p.arrs.length:Int))∧((eR p i s).1=4→0≤(eR p i s).2∧(eR p i s).2<(p.funs.length:Int)):=by
 have j:vJ (Vg f) s=(cX (gO f) s).map fun k=>(true,((0+k:Nat):Int)):=oR true s _ 0
 have g:vJ (lV p) s=match cX p.vars s with
  |some k=>some (false,(k:Int))
  |none=>match cX (p.arrs.map Ar.name) s with
   |some k=>some (false,(k:Int))
   |none=>(cX (p.funs.map Fu.name) s).map (fun k:Nat=>((false,(k:Int)):Bool×Int)):=by
  rw[lV,tN,tN,oR,oR,oR];cases cX p.vars s<;>cases cX (p.arrs.map Ar.name) s<;>cases cX (p.funs.map Fu.name) s<;>simp
 unfold eR Wy;rw[j,g,l];simp only[cA];rcases LA (cX (gO f) s)with c|⟨k,c⟩
 rotate_left
 ·have:=(iP _ _ _ c).1
  have n:(gO f).length=f.params.length+f.locs.length:=aB;simp only[c,eD,nG,bV];refine⟨by simp,fun _=>⟨by omega,by omega⟩,fun h=>absurd h (by simp),fun h=>absurd h (by simp),fun h=>absurd h (by simp)⟩
 simp only[c,iI];unfold rR kN;rw[yX,yX];rcases LA (cX p.vars s)with a|⟨k,a⟩
 rotate_left
 ·have:=(iP _ _ _ a).1
  simp only[a,bD this];refine⟨by simp,fun h=>absurd h (by simp),fun _=>⟨by omega,by omega⟩,fun h=>absurd h (by simp),fun h=>absurd h (by simp)⟩
 rcases LA (cX (p.arrs.map Ar.name) s)with b|⟨k,b⟩
 rotate_left
 ·have e:=(iP _ _ _ b).1
  rw[aG]at e;simp only[a,b,eD,aJ (show ¬(k+p.vars.length<p.vars.length)from by omega),Nat.add_sub_cancel,bD e];refine⟨by simp,fun h=>absurd h (by simp),fun h=>absurd h (by simp),fun _=>⟨by omega,by omega⟩,fun h=>absurd h (by simp)⟩
 rcases LA (cX (p.funs.map Fu.name) s)with d|⟨k,d⟩
 rotate_left
 ·have e:=(iP _ _ _ d).1
  rw[aG]at e;simp only[a,b,d,eD,iI,aB,aG];rw[aJ (show ¬(k+(p.vars.length+p.arrs.length)<p.vars.length)from by omega),aJ (show ¬(k+(p.vars.length+p.arrs.length)-p.vars.length<p.arrs.length)from by omega),show k+(p.vars.length+p.arrs.length)-p.vars.length-p.arrs.length=k from by omega];refine⟨by simp,fun h=>absurd h (by simp),fun h=>absurd h (by simp),fun h=>absurd h (by simp),fun _=>⟨by omega,by omega⟩⟩
 simp only[a,b,d,iI];refine⟨by simp,fun h=>absurd h (by simp),fun h=>absurd h (by simp),fun h=>absurd h (by simp),fun h=>absurd h (by simp)⟩
end Go.Al
namespace Go.Proofs.YtaecpjgmcffliaaGreatDoor
open Go.Al Go.Proofs.Tryz
theorem Bn {p:Pg} (h:iW p=0):gL p=true∧(kN p).Nodup∧kP p=true∧rI p=true:=by
 unfold iW at h;by_cases b:gL p=true
 ·rw[bD b]at h
  by_cases a:lD p=0
  ·refine⟨b, ?_⟩
   unfold lD at a;split at a
   ·rename_i c
    split at a
    ·rename_i e
     have d:=c;simp only[kP,aX,bP]at d;exact⟨d.1,c,e⟩
    cases a
   cases a
  rw[aJ a]at h;exact absurd h a
 rw[aJ b]at h;cases h
theorem Xm (p:Pg): ∀(l:List Fu) (i:Nat),jS p i l=true→ ∀(j:Nat) f,l[j]?=some f→(eG f.body).all (zA p (i+j))=true
 |[],_,_,_,_,hf=>by simp at hf
 |g::l,i,h,j,f,hf=>by
  simp only[jS,aX]at h
  cases j with
  |zero=>simp at hf;subst hf;exact h.1
  |succ j=>
   have:=Xm p l (i+1) h.2 j f (by simpa using hf);rwa [show i+1+j=i+(j+1)by omega]at this
theorem GN {p:Pg} (b:p.few) (h:iW p=0):KY p:=by
 obtain⟨c,j,d,l⟩:=Bn h;simp only[gL,aX,bP,cJ]at c;simp only[kP,aX]at d;refine⟨b.ok,j,fun f g=>?_,b.v,b.a,b.f,c.1.1.1.2,b.fs,fun a e=>?_⟩
 ·obtain⟨i,k⟩:=jB g
  exact(nY p p.funs 0 d.2 i f k).1
 have:=c.1.2 a e;simp only[pO,aX,bP]at this;omega
end Go.Proofs.YtaecpjgmcffliaaGreatDoor
namespace Go.Al
theorem Go.trace {W:List Int} {inp:dD} {k:Nat} {s s':Mc} (h:Go W inp k s s'): ∃g:Nat→Mc,g 0=s∧g k=s'∧ ∀i,i<k→nC W inp (g i)=some (0,g (i+1)):=by
 induction h with
 |nil s=>exact⟨fun _=>s,rfl,rfl,fun i d=>by omega⟩
 | @step k s s1 s2 h _ ih=>
   obtain⟨g,a,b,c⟩:=ih;refine⟨fun i=>match i with |0=>s|i+1=>g i,rfl,b,fun i d=>?_⟩
   cases i with
   |zero=>show nC W inp s=some (0,g 0);rw[a];exact h
   |succ i=>exact c i (by omega)
def A8:Mc:=⟨0,0,0,List.replicate 4224 0,0,[],0⟩
def qU (T:List Int):List Int:=(iL T 0 OT).2
end Go.Al
namespace Go.Proofs.YtaecpjgmcffliaaGreatDoor
open Go.Al Go.Proofs.Tryz
theorem Po: ∀{l:List dD} {s:dD},s∈l→ ∃k,cX l s=some k
 |x::l,s,h=>by
  rw[cX];by_cases e:x=s
  ·rw[bD e];exact⟨0,rfl⟩
  rw[aJ e];obtain⟨k,b⟩:=Po ((bL.1 h).resolve_left fun a=>e a.symm);rw[b];exact⟨k+1,rfl⟩
theorem Ib: ∀{l:List dD} {s:dD},s∉l→cX l s=none
 |[],_,_=>rfl
 |x::l,s,h=>by
  rw[cX,aJ (fun e=>h (by rw[e];exact dU)),Ib fun e=>h (fC _ e)];rfl
theorem Wu {p:Pg} {f:Fu} (h:qX p f) (s:dD):Wy (lV p) (Vg f) s=(match cX p.vars s with
  |some k=>some (false,(k:Int))
  |none=>match cX (p.arrs.map Ar.name) s with
   |some k=>some (false,(k:Int))
   |none=>(cX (p.funs.map Fu.name) s).map (fun k:Nat=>((false,(k:Int)):Bool×Int))).getD (false,0):=by
 have a:Vg f=[]:=by unfold Vg;rw[h.params,h.locs];rfl
 unfold Wy;rw[a,vJ];simp only;rw[lV,tN,tN,oR,oR,oR];cases cX p.vars s<;>cases cX (p.arrs.map Ar.name) s<;>cases cX (p.funs.map Fu.name) s<;>simp
theorem xK {p:Pg} {f:Fu} (h:qX p f) {c:UInt8} (e:[c]∈p.vars): ∃k,Wy (lV p) (Vg f) [c]=(false,((k:Nat):Int))∧p.vars[k]?=some [c]∧k<p.vars.length:=by
 obtain⟨k,a⟩:=Po e;obtain⟨b,d⟩:=iP _ _ _ a;exact⟨k,by rw[Wu h,a];rfl,d,b⟩
theorem GR {p:Pg} {f:Fu} (h:qX p f):Nm (fun c=>[c]∈p.vars) (p.arrs.length=1) (Wy (lV p) (Vg f)):=by
 have z: ∀c,[c]∈p.vars→97≤c.toNat∧c.toNat≤122:=fun c b=>by
  have:=h.vars _ b;simp only[Cd,aX,bP]at this;omega
 refine⟨z,fun c A b t e=>?_,fun c b=>?_,fun o=>?_⟩
 ·obtain⟨k,d,n,_⟩:=xK h b
  obtain⟨j,l,g,_⟩:=xK h t;rw[d,l]at e;have e:((k:Nat):Int)=((j:Nat):Int):=e;obtain rfl:k=j:=by omega
  rw[n]at g;simpa using g
 ·obtain⟨k,d,_⟩:=xK h b
  rw[d];exact⟨rfl,by simp⟩
 have y:cX p.vars [116]=none:=Ib fun u=>by
  have:=h.vars _ u;simp [Cd]at this
 obtain⟨a,i⟩:=Eb o;have v:=(h.arrs a (by rw[i];exact bE.2 rfl)).1;have x:cX (p.arrs.map Ar.name) [116]=some 0:=by rw[i];simp [cX,v]
 rw[Wu h,y,x];rfl
theorem NA {p:Pg} {f:Fu} (h:qX p f) (D: ∀m∈f.body,SS (fun c=>[c]∈p.vars) (p.arrs.length=1) 1 m) (hl:(hJ f.body).length+1≤2500) (inp:dD) (u:Int) {n:Nat} {e:Int} {Q:dD} {t:Nat} (C:HA (B0 p inp u) n p.vars.length (p.arrs.map fun a=>a.size.toNat)=some (e,Q,t)) (he:e≠5):
  ∃k E,k+1≤4 *((hJ f.body).length+1) *(t+1)∧Fin (qU (pX 0 f.body++[36])) inp k A8 e E∧E.out=Q∧e≠0:=by
 have J:=GR h
 have a2:(B0 p inp u).main=some (Jj (lV p) f):=by
  show(p.funs.map (Jj (lV p)))[(p.funs.map (Jj (lV p))).length- 1]?=_;rw[h.funs];rfl
 unfold HA at C;rw[a2]at C;have hw:(Jj (lV p) f).words=0:=by show f.params.length+f.locs.length=0;rw[h.params,h.locs];rfl
 simp only[cA,bO,hw,List.replicate_zero]at C;obtain⟨r,F,y⟩:=C;have F:nZ (B0 p inp u) n (Wy (lV p) (Vg f)) [] f.body (RS.init p.vars.length (p.arrs.map fun a=>a.size.toNat))=some r:=F;have a0:=qS (b:=0) fun x hx=>jL (D x hx);obtain⟨w1,S⟩:=jM (W:=qU (pX 0 f.body++[36])) (q:=0) (A:=pX 0 f.body) (B:=[36]) (z:=OT) (fun i _=>by rw[Nat.mul_zero,bV];rfl);have G:=LI (N:=2500) (l:=f.body) (q:=0) (d:=0) (fun m P q hq=>⟨LG (by decide) (D m P) q 0 (by decide) hq,jL (D m P) q⟩) (by omega);have G:(iL (pX 0 f.body) 0 OT).1=zl ((0:Nat):Int) 0:=G;rw[G,a0,bV,eL,(pJ (A:=1509949440) (X:=gB 26 0 0 0) (g:=2) (by decide) (by decide) (by decide) (by decide) (by decide) (by decide) (by decide) (by decide)).1]at S
 have hM:MR (fun c=>[c]∈p.vars) (p.arrs.length=1) (Wy (lV p) (Vg f)) (RS.init p.vars.length (p.arrs.map fun a=>a.size.toNat)) A8:=by
  refine⟨by show(List.replicate 4224 (0:Int)).length=4224;rw[fF],rfl,rfl,fun c O=>?_,fun Z=>?_⟩
  ·obtain⟨k,U,_,V⟩:=xK h O
   have:=J.lt c O;refine⟨0, ?_,by simp [dR], ?_⟩
   ·rw[U]
    show(List.replicate p.vars.length (0:Int))[((k:Nat):Int).toNat]?=_;rw[cB,qZ,bD V]
   show(List.replicate 4224 (0:Int))[c.toNat]?=_;rw[qZ,bD (by omega)]
  obtain⟨a,K⟩:=Eb Z;have hn:=(h.arrs a (by rw[K];exact bE.2 rfl)).2;refine⟨List.replicate 4096 0, ?_,fF,fun j hj=>⟨0,by rw[qZ,bD hj],by simp [dR], ?_⟩⟩
  ·show((p.arrs.map fun a=>a.size.toNat).map fun n=>List.replicate n (0:Int))[0]?=_
   rw[K];show some (List.replicate a.size.toNat (0:Int))=_;rw[hn,show(4096:Int).toNat=4096 from rfl]
  show(List.replicate 4224 (0:Int))[128+j]?=_;rw[qZ,bD (by omega)]
 have o:=(YH (W:=qU (pX 0 f.body++[36])) (cx:=B0 p inp u) J (N:=(hJ f.body).length+1) (by omega) (M:=4 *((hJ f.body).length+1)) rfl n).L D 0 0 (RS.init p.vars.length (p.arrs.map fun a=>a.size.toNat)) A8 r (by decide) (by omega) w1 rfl hM F;have a3:(RS.init p.vars.length (p.arrs.map fun a=>a.size.toNat)).ticks=0:=rfl;rw[a3]at o;have a4:4 *((hJ f.body).length+1) *(t+1)=4 *((hJ f.body).length+1) *t+4 *((hJ f.body).length+1):=Nat.mul_succ _ _
 cases r with
 |val v st=>
  simp only[I1,Prod.mk.injEq]at y;obtain⟨rfl,rfl,rfl⟩:=y;obtain⟨_,k,R,hk,T,H,I,_⟩:=o;rw[bV]at H;obtain⟨k1,k2⟩:=Ag (inp:=inp) (d:=0) (e:=0) S (by decide) H (by decide) I.len;have a1:uD inp 26 0 0 0 (R.hd (hJ f.body).length 0)=some (1,(R.hd (hJ f.body).length 0).stp):=rfl;exact⟨k+2,_,by omega,⟨_,Go.app T k1,k2.trans a1⟩,I.out,by decide⟩
 |fin x st=>
  simp only[I1,Prod.mk.injEq]at y;obtain⟨rfl,rfl,rfl⟩:=y;obtain⟨x0,o⟩:=o;rcases o with Y|⟨k,E,hk,hf,ho⟩
  ·exact absurd Y he
  exact⟨k,E,by omega,hf,ho,x0⟩
def YI:dD→Bool×Int:=Wy (lV eZ) (Vg nX)
theorem UV:oY YI:=⟨rfl,rfl,rfl,rfl,rfl,rfl,rfl,rfl,rfl,rfl,rfl⟩
theorem Ww {V:UInt8→Prop} {A:Prop} {l:List Sm} (g: ∀m∈l,SS V A 1 m) (f:(hJ l++[36]).length≤2500) (c:Int) (y:7 *((hJ l++[36]).length:Int)+50<c):
  ∃n t,HA (B0 eZ (hJ l++[36]) c) n eZ.vars.length (eZ.arrs.map fun a=>a.size.toNat)=some (1,vN (Ya (pX 0 l++[36])),t)∧t≤7 *(hJ l++[36]).length+50:=by
 have p:=MM g
 have v: ∀x∈pX 0 l++[36],0≤x∧x<4294967296:=fun x d=>by
  rw[eU,bE]at d;rcases d with d|rfl
  ·exact P6 (N:=2500) (by decide) (b:=0) (fun m u b k=>VJ (by decide) (g m u) b k) (by rw[aB]at f;omega) x d
  decide
 have o:(B0 eZ (hJ l++[36]) c).fuel=c.toNat:=by
  show(if c<0 then 0 else c).toNat=_;rw[aJ (by omega)]
 obtain⟨n,st,e,i,j⟩:=LV (cx:=B0 eZ (hJ l++[36]) c) (t:=hJ l++[36]) UV rfl f (by rw[o];omega) p v;refine⟨n,st.ticks, ?_,j⟩;have e:nZ (B0 eZ (hJ l++[36]) c) n (Jj (lV eZ) nX).res (List.replicate (Jj (lV eZ) nX).words 0) (Jj (lV eZ) nX).body (RS.init eZ.vars.length (eZ.arrs.map fun a=>a.size.toNat))=_:=e;show(some (Jj (lV eZ) nX)).bind _=_;rw[cA,e,eD];simp only[I1,i]
end Go.Proofs.YtaecpjgmcffliaaGreatDoor
