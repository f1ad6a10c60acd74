/- Jf -/
import Derived.Test.YtaecpjgmcffliaaGreatDoorJa
import Derived.Test.YtaecpjgmcffliaaGreatDoorLx
import Derived.Test.YtaecpjgmcffliaaGreatDoorWb
import Derived.Test.YtaecpjgmcffliaaGreatDoorAl3
set_option linter.unusedSimpArgs false
set_option linter.unusedVariables false
set_option maxHeartbeats 8000000
set_option maxRecDepth 100000
namespace Go.Al
theorem eB.offnone {sz:Nat} {v:AV} {rows:List (List AV)} {H:Hp} {b:Nat} (h:eB sz v rows H) (d:H b=none):Al.off v b:=fun s n e=>by
 rcases h with⟨rfl,_⟩|⟨c,rfl,a⟩
 ·cases e
 cases e;rw[d]at a;cases a
def eQ (op a b:Int):Int×Int:=
 if op=4 then(IntKind.wrap .u32 (a+b),0)
 else if op=5 then(IntKind.wrap .u32 (a-b),0)
 else if op=6 then(IntKind.wrap .u32 (a *b),0)
 else if op=7 then(if b=0 then(0,14)else(IntKind.wrap .u32 (a.tdiv b),0))
 else if op=8 then(if b=0 then(0,14)else(a.tmod b,0))
 else if op=9 then(IntKind.wrap .u32 (BitVec.ofInt 32 a&&&BitVec.ofInt 32 b).toNat,0)
 else if op=10 then(IntKind.wrap .u32 (BitVec.ofInt 32 a|||BitVec.ofInt 32 b).toNat,0)
 else if op=11 then(IntKind.wrap .u32 (BitVec.ofInt 32 a^^^BitVec.ofInt 32 b).toNat,0)
 else if op=12 then(if 31<b then(0,0)else(IntKind.wrap .u32 (a *2^(min b.toNat 32)),0))
 else if op=13 then(if 31<b then(0,0)else(a.fdiv (2^(min b.toNat 32)),0))
 else if op=14 then((if a<b then 1 else 0),0)
 else if op=15 then((if a=b then 1 else 0),0)
 else(0,1)
structure RS where
 vars:List Int
 arrs:List (List Int)
 read:Nat
 out:List UInt8
 ticks:Nat
inductive Rz (α:Type) where
 |val (a:α) (s:RS)
 |fin (e:Int) (s:RS)
def Rz.st {α:Type}:Rz α→RS| .val _ s=>s| .fin _ s=>s
structure Cf where
 words:Nat
 res:dD→Bool×Int
 body:List Sm
structure Cx where
 funs:List Cf
 inp:dD
 fuel:Nat
def bindR {α β:Type} (x:Option (Rz α)) (f:α→RS→Option (Rz β)):Option (Rz β):=match x with
 |none=>none
 |some (.val a s)=>f a s
 |some (.fin e s)=>some (.fin e s)
def nK (cx:Cx) (s:RS):Rz Unit:=if cx.fuel≤s.ticks then .fin 5 s else .val () {s with ticks:=s.ticks+1}
def zE (cx:Cx) (s:RS):Rz Int:=match cx.inp[s.read]? with
 |some c=> .val c.toNat {s with read:=s.read+1}
 |none=> .val 256 s
def Ia (v:Int) (s:RS):Rz Unit:=if 65536≤s.out.length then .fin 4 s else .val () {s with out:=s.out++[UInt8.ofNat (IntKind.wrap .u8 v).toNat]}
def U1 (i at':Int) (s:RS):Option (Rz Nat):=match s.arrs[i.toNat]? with
 |none=>none
 |some l=>if at'.toNat<l.length then some (.val at'.toNat s)else some (.fin 3 s)
def Si (i:Int) (j:Nat) (v:Int) (s:RS):RS:={s with arrs:=s.arrs.modify i.toNat fun l=>l.set j v}
def Sr (p:Bool×Int) (v:Int) (ow:List Int) (s:RS):Option (List Int×RS):=
 if 0≤p.2 then(if p.1 then(if p.2.toNat<ow.length then some (ow.set p.2.toNat v,s)else none)else if p.2.toNat<s.vars.length then some (ow,{s with vars:=s.vars.set p.2.toNat v})else none)else none
def Pz (p:Bool×Int) (ow:List Int) (s:RS):Option Int:=if 0≤p.2 then(if p.1 then ow[p.2.toNat]? else s.vars[p.2.toNat]?)else none
mutual
def kR (cx:Cx):Nat→(dD→Bool×Int)→List Int→Ex→RS→Option (Rz Int)
 |0,_,_,_,_=>none
 |n+1,rs,ow, .mk k o m s l,st=>
  if k=1 then some (.val m st)
  else if k=2 then(Pz (rs s) ow st).map fun v=> .val v st
  else if k=3 then match l[0]? with
   |none=>none
   |some a=>bindR (kR cx n rs ow a st) fun at' st=>if 0≤(rs s).2 then bindR (U1 (rs s).2 at' st) fun j st=>((st.arrs[(rs s).2.toNat]?).bind fun l=>l[j]?).map fun v=> .val v st else none
  else if k=4 then Ub cx n rs ow (rs s).2 l st
  else if k=5 then some (zE cx st)
  else match l[0]? with
   |none=>none
   |some a=>
    if k=7 then bindR (kR cx n rs ow a st) fun x st=>some (.val (if x=0 then 1 else 0) st)
    else match l[1]? with
    |none=>none
    |some b=>
     if k=6 then bindR (kR cx n rs ow a st) fun x st=>bindR (kR cx n rs ow b st) fun y st=>if(eQ o x y).2=0 then some (.val (eQ o x y).1 st)else some (.fin 2 st)
     else bindR (kR cx n rs ow a st) fun x st=>if decide (x=0)=decide (k=8)then some (.val x st)else kR cx n rs ow b st
def Ek (cx:Cx):Nat→(dD→Bool×Int)→List Int→List Ex→RS→Option (Rz (List Int))
 |0,_,_,_,_=>none
 |_+1,_,_,[],st=>some (.val [] st)
 |n+1,rs,ow,e::l,st=>bindR (kR cx n rs ow e st) fun v st=>bindR (Ek cx n rs ow l st) fun vs st=>some (.val (v::vs) st)
def Ub (cx:Cx):Nat→(dD→Bool×Int)→List Int→Int→List Ex→RS→Option (Rz Int)
 |0,_,_,_,_,_=>none
 |n+1,rs,ow,i,l,st=>if i<0 then none else match cx.funs[i.toNat]? with
  |none=>none
  |some f=>if f.words<l.length then none else bindR (Ek cx n rs ow l st) fun vs st=>bindR (some (nK cx st)) fun _ st=>
   bindR (nZ cx n f.res (vs++List.replicate (f.words-l.length) 0) f.body st) fun r st=>some (.val (r.1.getD 0) st)
def pQ (cx:Cx):Nat→(dD→Bool×Int)→List Int→Sm→RS→Option (Rz (Option Int×List Int))
 |0,_,_,_,_=>none
 |n+1,rs,ow, .mk k s l t u,st=>
  if k=1 then match l[0]? with
   |none=>none
   |some a=>bindR (kR cx n rs ow a st) fun v st=>(Sr (rs s) v ow st).map fun p=> .val (none,p.1) p.2
  else if k=2 then match l[0]?,l[1]? with
   |some a,some b=>bindR (kR cx n rs ow a st) fun x st=>bindR (kR cx n rs ow b st) fun v st=>if 0≤(rs s).2 then bindR (U1 (rs s).2 x st) fun j st=>some (.val (none,ow) (Si (rs s).2 j v st))else none
   |_,_=>none
  else if k=3 then match l[0]? with
   |none=>none
   |some a=>bindR (kR cx n rs ow a st) fun v st=>bindR (some (Ia v st)) fun _ st=>some (.val (none,ow) st)
  else if k=4 then match l[0]? with
   |none=>none
   |some a=>bindR (kR cx n rs ow a st) fun v st=>if v=0 then nZ cx n rs ow u st else nZ cx n rs ow t st
  else if k=5 then match l[0]? with
   |none=>none
   |some a=>zF cx n rs ow a t st
  else if k=6 then bindR (Ub cx n rs ow (rs s).2 l st) fun _ st=>some (.val (none,ow) st)
  else if k=7 then match l[0]? with
   |none=>some (.val (some 0,ow) st)
   |some a=>bindR (kR cx n rs ow a st) fun v st=>some (.val (some v,ow) st)
  else some (.val (none,ow) st)
def nZ (cx:Cx):Nat→(dD→Bool×Int)→List Int→List Sm→RS→Option (Rz (Option Int×List Int))
 |0,_,_,_,_=>none
 |_+1,_,ow,[],st=>some (.val (none,ow) st)
 |n+1,rs,ow,s::l,st=>bindR (pQ cx n rs ow s st) fun r st=>match r.1 with
  |some v=>some (.val (some v,r.2) st)
  |none=>nZ cx n rs r.2 l st
def zF (cx:Cx):Nat→(dD→Bool×Int)→List Int→Ex→List Sm→RS→Option (Rz (Option Int×List Int))
 |0,_,_,_,_,_=>none
 |n+1,rs,ow,c,t,st=>bindR (some (nK cx st)) fun _ st=>bindR (kR cx n rs ow c st) fun x st=>if x=0 then some (.val (none,ow) st)else
  bindR (nZ cx n rs ow t st) fun r st=>match r.1 with
  |some v=>some (.val (some v,r.2) st)
  |none=>zF cx n rs r.2 c t st
end
def jX {α:Type} (x y:Option α):Prop:= ∀o,x=some o→y=some o
theorem jX.refl {a:Type} (x:Option a):jX x x:=fun _ h=>h
theorem jX.none {a:Type} (y:Option a):jX none y:=fun _ h=>by cases h
theorem jX.bindR {c d:Type} {x y:Option (Rz c)} {f g:c→RS→Option (Rz d)} (h:jX x y) (hf: ∀a s,jX (f a s) (g a s)):jX (bindR x f) (bindR y g):=fun o b=>by
 cases x with
 |none=>cases b
 |some r=>
  have:=h r rfl;subst this
  cases r with
  |val a s=>exact hf a s o b
  |fin e s=>exact b
theorem jX.ite {e:Type} {c:Prop} [Decidable c] {x y a b:Option e} (h:jX x a) (d:jX y b):jX (if c then x else y) (if c then a else b):=by
 split
 ·exact h
 exact d
structure Deep (cx:Cx) (n:Nat):Prop where
 E: ∀rs ow e st,jX (kR cx n rs ow e st) (kR cx (n+1) rs ow e st)
 A: ∀rs ow l st,jX (Ek cx n rs ow l st) (Ek cx (n+1) rs ow l st)
 C: ∀rs ow i l st,jX (Ub cx n rs ow i l st) (Ub cx (n+1) rs ow i l st)
 S: ∀rs ow e st,jX (pQ cx n rs ow e st) (pQ cx (n+1) rs ow e st)
 L: ∀rs ow l st,jX (nZ cx n rs ow l st) (nZ cx (n+1) rs ow l st)
 W: ∀rs ow c t st,jX (zF cx n rs ow c t st) (zF cx (n+1) rs ow c t st)
theorem I4 (cx:Cx) (n:Nat):Deep cx n:=by
 induction n with
 |zero=>
  constructor
  all_goals
   intros
   intro o h;simp [kR,Ek,Ub,pQ,nZ,zF]at h
 |succ n ih=>
  obtain⟨d,z,A,C,g,B⟩:=ih;constructor
  ·rintro y p ⟨k,o,m,s,l⟩ st
   simp only[kR];refine jX.ite (jX.refl _) (jX.ite (jX.refl _) (jX.ite ?_ (jX.ite (A _ _ _ _ _) (jX.ite (jX.refl _) ?_))))
   ·cases l[0]? with
    |none=>exact jX.refl _
    |some a=>exact jX.bindR (d _ _ _ _) fun _ _=>jX.refl _
   cases l[0]? with
   |none=>exact jX.refl _
   |some a=>
    refine jX.ite (jX.bindR (d _ _ _ _) fun _ _=>jX.refl _) ?_
    cases l[1]? with
    |none=>exact jX.refl _
    |some b=>
     refine jX.ite (jX.bindR (d _ _ _ _) fun _ _=>jX.bindR (d _ _ _ _) fun _ _=>jX.refl _) ?_;exact jX.bindR (d _ _ _ _) fun _ _=>jX.ite (jX.refl _) (d _ _ _ _)
  ·intro y p l st
   cases l with
   |nil=>simp only[Ek];exact jX.refl _
   |cons e l=>
    simp only[Ek];exact jX.bindR (d _ _ _ _) fun _ _=>jX.bindR (z _ _ _ _) fun _ _=>jX.refl _
  ·intro y p i l st
   simp only[Ub];refine jX.ite (jX.refl _) ?_
   cases cx.funs[i.toNat]? with
   |none=>exact jX.refl _
   |some f=>exact jX.ite (jX.refl _) (jX.bindR (z _ _ _ _) fun _ _=>jX.bindR (jX.refl _) fun _ _=>jX.bindR (g _ _ _ _) fun _ _=>jX.refl _)
  ·rintro y p ⟨k,s,l,t,u⟩ st
   simp only[pQ];refine jX.ite ?_ (jX.ite ?_ (jX.ite ?_ (jX.ite ?_ (jX.ite ?_ (jX.ite ?_ (jX.ite ?_ (jX.refl _)))))))
   ·cases l[0]? with
    |none=>exact jX.refl _
    |some a=>exact jX.bindR (d _ _ _ _) fun _ _=>jX.refl _
   ·cases l[0]? with
    |none=>exact jX.refl _
    |some a=>
     cases l[1]? with
     |none=>exact jX.refl _
     |some b=>exact jX.bindR (d _ _ _ _) fun _ _=>jX.bindR (d _ _ _ _) fun _ _=>jX.refl _
   ·cases l[0]? with
    |none=>exact jX.refl _
    |some a=>exact jX.bindR (d _ _ _ _) fun _ _=>jX.refl _
   ·cases l[0]? with
    |none=>exact jX.refl _
    |some a=>exact jX.bindR (d _ _ _ _) fun _ _=>jX.ite (g _ _ _ _) (g _ _ _ _)
   ·cases l[0]? with
    |none=>exact jX.refl _
    |some a=>exact B _ _ _ _ _
   ·exact jX.bindR (A _ _ _ _ _) fun _ _=>jX.refl _
   cases l[0]? with
   |none=>exact jX.refl _
   |some a=>exact jX.bindR (d _ _ _ _) fun _ _=>jX.refl _
  ·intro y p l st
   cases l with
   |nil=>simp only[nZ];exact jX.refl _
   |cons s l=>
    simp only[nZ];refine jX.bindR (C _ _ _ _) fun r st=>?_
    cases r.1 with
    |some v=>exact jX.refl _
    |none=>exact g _ _ _ _
  intro y p c t st;simp only[zF];refine jX.bindR (jX.refl _) fun _ st=>jX.bindR (d _ _ _ _) fun x st=>jX.ite (jX.refl _) (jX.bindR (g _ _ _ _) fun r st=>?_)
  cases r.1 with
  |some v=>exact jX.refl _
  |none=>exact B _ _ _ _ _
theorem Jh {b:Type} {f:Nat→Option b} (h: ∀n,jX (f n) (f (n+1))) {n m:Nat} (c:n≤m):jX (f n) (f m):=by
 induction m with
 |zero=>obtain rfl:n=0:=by omega
        exact jX.refl _
 |succ m ih=>
  rcases pU m n with h1|h1
  ·obtain rfl:n=m+1:=by omega
   exact jX.refl _
  exact fun o a=>h m o (ih h1 o a)
theorem Yn {cx:Cx} {n m:Nat} (a:n≤m) {rs ow e st o} (h:kR cx n rs ow e st=some o):kR cx m rs ow e st=some o:=Jh (f:=fun n=>kR cx n rs ow e st) (fun n=>(I4 cx n).E _ _ _ _) a o h
theorem JQ {cx:Cx} {n m:Nat} (a:n≤m) {rs ow e st o} (h:pQ cx n rs ow e st=some o):pQ cx m rs ow e st=some o:=Jh (f:=fun n=>pQ cx n rs ow e st) (fun n=>(I4 cx n).S _ _ _ _) a o h
theorem JR {cx:Cx} {n m:Nat} (a:n≤m) {rs ow e st o} (h:nZ cx n rs ow e st=some o):nZ cx m rs ow e st=some o:=Jh (f:=fun n=>nZ cx n rs ow e st) (fun n=>(I4 cx n).L _ _ _ _) a o h
def Zu {α:Type} (f:Nat→Option (Rz α)) (P:α→RS→Prop):Prop:= ∃n r,f n=some r∧ ∀a s,r= .val a s→P a s
def Gg {α:Type} (f:Nat→Option α):Prop:= ∀n,jX (f n) (f (n+1))
theorem Gg.const {a:Type} (x:Option a):Gg fun _=>x:=fun _=>jX.refl _
theorem Zu.const {b:Type} {x:Rz b} {P:b→RS→Prop} (h: ∀a s,x= .val a s→P a s):Zu (fun _=>some x) P:=⟨0,x,rfl,h⟩
theorem Zu.mono {b:Type} {f:Nat→Option (Rz b)} {P Q:b→RS→Prop} (h:Zu f P) (g: ∀a s,P a s→Q a s):Zu f Q:=by
 obtain⟨n,r,c,d⟩:=h;exact⟨n,r,c,fun a s e=>g a s (d a s e)⟩
theorem Zu.bind {b d:Type} {f:Nat→Option (Rz b)} {g:b→RS→Nat→Option (Rz d)} {P:b→RS→Prop} {Q:d→RS→Prop} (h:Zu f P) (hf:Gg f) (v: ∀a s,Gg (g a s)) (o: ∀a s,P a s→Zu (g a s) Q):Zu (fun n=>bindR (f n) fun a s=>g a s n) Q:=by
 obtain⟨n,r,c,t⟩:=h
 cases r with
 |fin e s=>exact⟨n, .fin e s,by simp only[c,bindR],fun a s e=>by cases e⟩
 |val a s=>
  obtain⟨m,r,p,u⟩:=o a s (t a s rfl);refine⟨max n m,r, ?_,u⟩;have k:=Jh hf (Nat.le_max_left n m) _ c;have l:=Jh (v a s) (Nat.le_max_right n m) _ p;simp only[k,bindR];exact l
theorem Zu.ite {b:Type} {c:Prop} [Decidable c] {f g:Nat→Option (Rz b)} {P:b→RS→Prop} (d:c→Zu f P) (k: ¬c→Zu g P):Zu (fun n=>if c then f n else g n) P:=by
 by_cases h:c
 ·obtain⟨n,r,e,a⟩:=d h;exact⟨n,r,by simp only[bD h,e],a⟩
 obtain⟨n,r,e,a⟩:=k h;exact⟨n,r,by simp only[aJ h,e],a⟩
theorem Zu.succ {a:Type} {f g:Nat→Option (Rz a)} {P:a→RS→Prop} (h:Zu f P) (d: ∀n,g (n+1)=f n):Zu g P:=by
 obtain⟨n,r,b,c⟩:=h;exact⟨n+1,r,by rw[d,b],c⟩
theorem Gg.bind {b d:Type} {f:Nat→Option (Rz b)} {g:b→RS→Nat→Option (Rz d)} (hf:Gg f) (c: ∀a s,Gg (g a s)):Gg fun n=>bindR (f n) fun a s=>g a s n:=fun n=>jX.bindR (hf n) fun a s=>c a s n
theorem Gg.ite {b:Type} {c:Prop} [Decidable c] {f g:Nat→Option b} (hf:Gg f) (a:Gg g):Gg fun n=>if c then f n else g n:=fun n=>jX.ite (hf n) (a n)
structure Nm (cx:Cx) (nv na i:Nat) where
 w:Nat
 res:dD→Bool×Int
structure Fm (nv na t:Nat) (s:RS):Prop where
 v:s.vars.length=nv
 a:s.arrs.length=na
 t:t≤s.ticks
theorem Fm.self {nv na t:Nat} {s:RS} (h:Fm nv na t s):Fm nv na s.ticks s:=⟨h.v,h.a,bH _⟩
theorem Fm.trans {nv na t b:Nat} {s:RS} (c:t≤b) (h:Fm nv na b s):Fm nv na t s:=⟨h.v,h.a,oG c h.t⟩
def QO (cx:Cx) (nv na j:Nat):Prop:= ∀f,cx.funs[j]?=some f→ ∀(ow:List Int) (st:RS),ow.length=f.words→st.vars.length=nv→st.arrs.length=na→
 Zu (fun n=>nZ cx n f.res ow f.body st) (fun _ s=>Fm nv na st.ticks s)
section
variable {cx : Cx} {nv na i : Nat} {f : Cf} (hf : cx.funs[i]? = some f) (hb : ∀ j, j < i → QO cx nv na j)
include hf hb
end
section
variable {cx : Cx} {nv na i : Nat} {f : Cf} (hf : cx.funs[i]? = some f) (hb : ∀ j, j < i → QO cx nv na j)
include hf hb
end
def Cx.main (cx:Cx):Option Cf:=cx.funs[cx.funs.length- 1]?
def RS.init (nv:Nat) (sizes:List Nat):RS:=⟨List.replicate nv 0,sizes.map fun n=>List.replicate n 0,0,[],0⟩
def I1 {α:Type}:Rz α→Int×dD×Nat
 | .val _ s=>(1,s.out,s.ticks)
 | .fin e s=>(e,s.out,s.ticks)
def HA (cx:Cx) (n nv:Nat) (sizes:List Nat):Option (Int×dD×Nat):=cx.main.bind fun f=>(nZ cx n f.res (List.replicate f.words 0) f.body (RS.init nv sizes)).map I1
inductive PV (rs:dD→Bool×Int) (st:RS):Ex→Int→Prop where
 |num {o m:Int} {s:dD} {l:List Ex}:PV rs st (.mk 1 o m s l) m
 |var {o m:Int} {s:dD} {l:List Ex} {v:Int} (h:Pz (rs s) [] st=some v):PV rs st (.mk 2 o m s l) v
 |idx {o m:Int} {s:dD} {a:Ex} {x v:Int} {l:List Int} (ha:PV rs st a x) (h0:0≤(rs s).2) (h1:st.arrs[(rs s).2.toNat]?=some l) (h3:l[x.toNat]?=some v):PV rs st (.mk 3 o m s [a]) v
 |op {o m:Int} {s:dD} {a b:Ex} {x y v:Int} (ha:PV rs st a x) (hb:PV rs st b y) (h:eQ o x y=(v,0)):PV rs st (.mk 6 o m s [a,b]) v
 |neg {o m:Int} {s:dD} {a:Ex} {x v:Int} (ha:PV rs st a x) (h:(if x=0 then 1 else 0)=v):PV rs st (.mk 7 o m s [a]) v
theorem zG {cx:Cx} {n m:Nat} (a:n≤m) {rs ow e st r} (h:kR cx n rs ow e st=some r):kR cx m rs ow e st=some r:=by
 induction m with
 |zero=>obtain rfl:n=0:=by omega
        exact h
 |succ m ih=>
  rcases pU m n with c|c
  ·obtain rfl:n=m+1:=by omega
   exact h
  exact(I4 cx m).E _ _ _ _ _ (ih c)
theorem H7 {cx:Cx} {n m:Nat} (a:n≤m) {rs ow e st r} (h:nZ cx n rs ow e st=some r):nZ cx m rs ow e st=some r:=by
 induction m with
 |zero=>obtain rfl:n=0:=by omega
        exact h
 |succ m ih=>
  rcases pU m n with c|c
  ·obtain rfl:n=m+1:=by omega
   exact h
  exact(I4 cx m).L _ _ _ _ _ (ih c)
theorem PV.ev {rs:dD→Bool×Int} {st:RS} {e:Ex} {v:Int} (cx:Cx) (h:PV rs st e v): ∃n,kR cx n rs [] e st=some (.val v st):=by
 induction h with
 |num=>exact⟨1,by simp [kR]⟩
 |var h=>exact⟨1,by simp [kR,h]⟩
 | @idx o m s a x v l ha h0 d h3 ih=>
   obtain⟨n,c⟩:=ih;have f:x.toNat<l.length:=(bF.1 h3).1;refine⟨n+1, ?_⟩;simp [kR,c,bindR,h0,U1,d,f];exact(bF.1 h3).2
 | @op o m s a b x y v ha hb h iha ihb=>
   obtain⟨n,c⟩:=iha;obtain⟨k,g⟩:=ihb;refine⟨n+k+1, ?_⟩;have d:=zG (m:=n+k) (by omega) c;have f:=zG (m:=n+k) (by omega) g;simp [kR,d,f,bindR,h]
 | @neg o m s a x v ha h ih=>
   obtain⟨n,c⟩:=ih;refine⟨n+1, ?_⟩;simp [kR,c,bindR,h]
def Wp (cx:Cx) (rs:dD→Bool×Int) (l:List Sm) (st:RS) (P:RS→Prop):Prop:= ∃n st',nZ cx n rs [] l st=some (.val (none,[]) st')∧P st'
section
variable {cx : Cx} {rs : dD → Bool × Int} {st : RS} {P : RS → Prop} {l : List Sm}
theorem Wp.nil (h:P st):Wp cx rs [] st P:=⟨1,st,by simp [nZ],h⟩
theorem Wp.imp {Q:RS→Prop} (h:Wp cx rs l st Q) (c: ∀s,Q s→P s):Wp cx rs l st P:=by
 obtain⟨n,s,a,b⟩:=h;exact⟨n,s,a,c s b⟩
theorem Wp.one {s:Sm} {a:RS} (d: ∃n,pQ cx n rs [] s st=some (.val (none,[]) a)) (h:Wp cx rs l a P):Wp cx rs (s::l) st P:=by
 obtain⟨n,b⟩:=d;obtain⟨k,i,g,f⟩:=h
 have j: ∀m,n≤m→pQ cx m rs [] s st=some (.val (none,[]) a):=by
  intro m o
  induction m with
  |zero=>obtain rfl:n=0:=by omega
         exact b
  |succ m ih=>
   rcases pU m n with c|c
   ·obtain rfl:n=m+1:=by omega
    exact b
   exact(I4 cx m).S _ _ _ _ _ (ih c)
 refine⟨n+k+1,i, ?_,f⟩;have e:=H7 (m:=n+k) (by omega) g;simp [nZ,j (n+k) (by omega),bindR,e]
theorem Wp.set {s:dD} {e:Ex} {t u:List Sm} {v i:Int} (f:PV rs st e v) (b:rs s=(false,i)) (a:0≤i) (c:i.toNat<st.vars.length) (h:Wp cx rs l {st with vars:=st.vars.set i.toNat v} P):Wp cx rs (.mk 1 s [e] t u::l) st P:=by
 obtain⟨n,d⟩:=f.ev cx;exact .one ⟨n+1,by simp [pQ,d,bindR,Sr,b,a,c]⟩ h
theorem Wp.get {s:dD} {o m:Int} {s':dD} {l':List Ex} {t u:List Sm} {v i:Int} {a:RS} (c:zE cx st= .val v a) (d:rs s=(false,i)) (b:0≤i) (e:i.toNat<a.vars.length) (h:Wp cx rs l {a with vars:=a.vars.set i.toNat v} P):Wp cx rs (.mk 1 s [.mk 5 o m s' l'] t u::l) st P:=
 .one ⟨2,by simp [pQ,kR,c,bindR,Sr,d,b,e]⟩ h
theorem Wp.store {s:dD} {a e:Ex} {t u:List Sm} {x v:Int} {b:Bool} {i:Int} {arr:List Int} (A:PV rs st a x) (z:PV rs st e v) (j:rs s=(b,i)) (c:0≤i) (g:st.arrs[i.toNat]?=some arr) (p:x.toNat<arr.length) (h:Wp cx rs l (Si i x.toNat v st) P):Wp cx rs (.mk 2 s [a,e] t u::l) st P:=by
 obtain⟨n,y⟩:=A.ev cx;obtain⟨k,o⟩:=z.ev cx;have d:=zG (m:=n+k) (by omega) y;have f:=zG (m:=n+k) (by omega) o;exact .one ⟨n+k+1,by simp [pQ,d,f,bindR,j,c,U1,g,p]⟩ h
theorem Wp.put {s:dD} {e:Ex} {t u:List Sm} {v:Int} (b:PV rs st e v) (c:st.out.length<65536) (h:Wp cx rs l {st with out:=st.out++[UInt8.ofNat (IntKind.wrap .u8 v).toNat]} P):Wp cx rs (.mk 3 s [e] t u::l) st P:=by
 obtain⟨n,a⟩:=b.ev cx;have : ¬65536≤st.out.length:=by omega
 exact .one ⟨n+1,by simp [pQ,a,bindR,Ia,this]⟩ h
theorem Wp.sub {s:Sm} {Q:RS→Prop} (c: ∃n a,pQ cx n rs [] s st=some (.val (none,[]) a)∧Q a) (h: ∀b,Q b→Wp cx rs l b P):Wp cx rs (s::l) st P:=by
 obtain⟨n,a,d,e⟩:=c;exact .one ⟨n,d⟩ (h a e)
theorem Wp.cond (Q:RS→Prop) {s:dD} {e:Ex} {t:List Sm} {v:Int} (j:PV rs st e v) (d:v≠0→Wp cx rs t st Q) (f:v=0→Q st) (h: ∀b,Q b→Wp cx rs l b P):Wp cx rs (.mk 4 s [e] t []::l) st P:=by
 obtain⟨n,a⟩:=j.ev cx;refine .sub ?_ h;by_cases c:v=0
 ·exact⟨n+2,st,by simp [pQ,zG (m:=n+1) (by omega) a,bindR,c,nZ],f c⟩
 obtain⟨k,o,i,g⟩:=d c;exact⟨n+k+1,o,by simp [pQ,zG (m:=n+k) (by omega) a,bindR,c,H7 (m:=n+k) (by omega) i],g⟩
def RS.tick (s:RS):RS:={s with ticks:=s.ticks+1}
theorem Wp.loop (I:Nat→RS→Prop) (N:Nat) {s:dD} {e:Ex} {t u:List Sm} (i:st.ticks<cx.fuel) (b:I 0 st.tick)
  (step: ∀k s,k<N→I k s→ ∃v,PV rs s e v∧v≠0∧Wp cx rs t s (fun f=>f.ticks<cx.fuel∧I (k+1) f.tick))
  (stop: ∀s,I N s→PV rs s e 0∧Wp cx rs l s P):Wp cx rs (.mk 5 s [e] t u::l) st P:=by
 have J: ∀j k,k+j=N→ ∀st:RS,st.ticks<cx.fuel→I k st.tick→ ∃n a,zF cx n rs [] e t st=some (.val (none,[]) a)∧I N a:=by
  intro j
  induction j with
  |zero=>
   intro k D st i b;obtain rfl:k=N:=by omega
   obtain⟨n,d⟩:=(stop _ b).1.ev cx;have d:kR cx n rs [] e {st with ticks:=st.ticks+1}=some (.val 0 st.tick):=d;exact⟨n+1,st.tick,by simp [zF,nK,bindR,show ¬cx.fuel≤st.ticks by omega,d],b⟩
  |succ j ih=>
   intro k D st i b;obtain⟨v,G,H,m,o,E,C,A⟩:=step k _ (by omega) b;obtain⟨n,d⟩:=G.ev cx;obtain⟨q,a,p,B⟩:=ih (k+1) (by omega) o C A
   have K:zF cx (n+m+q) rs [] e t o=some (.val (none,[]) a):=by
    have : ∀r,q≤r→zF cx r rs [] e t o=some (.val (none,[]) a):=by
     intro r L
     induction r with
     |zero=>obtain rfl:q=0:=by omega
            exact p
     |succ r ihr=>
      rcases pU r q with c|c
      ·obtain rfl:q=r+1:=by omega
       exact p
      exact(I4 cx r).W _ _ _ _ _ _ (ihr c)
    exact this _ (by omega)
   refine⟨n+m+q+1,a, ?_,B⟩;have g:=zG (m:=n+m+q) (by omega) d;have x:=H7 (m:=n+m+q) (by omega) E;have g:kR cx (n+m+q) rs [] e {st with ticks:=st.ticks+1}=some (.val v st.tick):=g;simp [zF,nK,bindR,show ¬cx.fuel≤st.ticks by omega,g,H,x,K]
 obtain⟨n,a,y,z⟩:=J N 0 (by omega) st i b;exact .sub ⟨n+1,a,by simp [pQ,y],z⟩ fun f F=>(stop f F).2
end
abbrev gR (x:Int):Int:=IntKind.wrap .u32 x
def C7 (c:Int):Int:=
 if c=43 then 4 else if c=45 then 5 else if c=42 then 6 else if c=47 then 7 else if c=37 then 8 else if c=38 then 9 else if c=124 then 10 else if c=94 then 11 else if c=76 then 12 else if c=82 then 13 else if c=60 then 14 else if c=61 then 15
 else if c=33 then 1326579712 else if c=63 then 1997537280 else if c=64 then 1343357056 else if c=35 then 420483072 else if c=46 then 941621248 else if c=32 then 1645215744 else if c=69 then 908066816 else if c=36 then 1509949440 else 0
structure Zs where
 d:Int
 s:Int
 m:Int
def Ge (c:Int):Int:=if c<256 then C7 c else c
def Ba (c:Int):Int:=if Ge c=0 then 1125253120 else Ge c
def vF (c:Int):Int:=if Ba c<16 then gR (gR (Ba c *16777216)+537985026)else Ba c
def Vf (c:Int) (z:Zs):Int:=if gR (c- 48)<10 then gR (gR (z.m *10)+gR (c- 48))else z.m
def L8 (c:Int) (z:Zs):Int:=if c=32 then gR (vF c+Vf c z/65536)else vF c
def Me (c:Int) (z:Zs):Int:=if c=32 then 0 else Vf c z
def A4 (c:Int) (z:Zs):Int:=if gR (c- 97)<26 then gR (z.s+c)else L8 c z
def BQ (c:Int) (z:Zs):Int:=if gR (c- 97)<26 then 1880096768 else z.s
def A5 (c:Int) (z:Zs):Int:=if c=58 then 824180736 else BQ c z
def Md (q c:Int) (z:Zs):Int:=if c=87 then gR (1628438528+gR (q *4))else A4 c z
def BW (c:Int) (z:Zs):Int:=if c=32 then gR (17825792+Vf c z % 65536)else gR (269484032+z.d)
def U5 (c:Int) (z:Zs):Int:=if c=64 then 421531648 else BW c z
def zd (q c:Int) (z:Zs):Int:=gR (gR (z.d+Md q c z/536870912)- 2)
def BV (q c:Int) (z:Zs):Int:=if c=35 then 287375488 else gR (286261249+zd q c z)
def vW (q c:Int) (z:Zs):List Int:=[gR (270532609+z.d),U5 c z,Md q c z % 536870912,BV q c z]
def Bh (q c:Int) (z:Zs):Zs:=⟨zd q c z,A5 c z,Me c z⟩
def iL:List Int→Nat→Zs→Zs×List Int
 |[],_,z=>(z,[])
 |c::T,q,z=>((iL T (q+1) (Bh q c z)).1,vW q c z++(iL T (q+1) (Bh q c z)).2)
theorem zM (A B:List Int): ∀(q:Nat) (z:Zs),iL (A++B) q z=((iL B (q+A.length) (iL A q z).1).1,(iL A q z).2++(iL B (q+A.length) (iL A q z).1).2):=by
 induction A with
 |nil=>intro q z;simp [iL]
 |cons c A ih=>
  intro q z;simp only[cZ,iL,ih,aM,bT];rw[show q+1+A.length=q+(A.length+1)by omega]
theorem U6 (A:List Int) (c:Int) (q:Nat) (z:Zs):iL (A++[c]) q z=(Bh (q+A.length:Nat) c (iL A q z).1,(iL A q z).2++vW (q+A.length:Nat) c (iL A q z).1):=by
 rw[zM];simp [iL]
def P9 (c:UInt8) (p:List Int×Int):Option (List Int×Int):=
 if c=68∨c=73 then some (p.1++[p.2],p.1.length)
 else if c=69∨c=70 then
  (if 0≤p.2 then match p.1[p.2.toNat]? with
   |some x=>some ((p.1++[(c.toNat:Int)]).set p.2.toNat (857735172+4 *(p.1.length:Int)),x)
   |none=>none
  else none)
 else some (p.1++[(c.toNat:Int)],p.2)
def yB:dD→List Int×Int→Option (List Int×Int)
 |[],p=>some p
 |c::t,p=>(P9 c p).bind (yB t)
theorem mH (a b:dD) (p:List Int×Int):yB (a++b) p=(yB a p).bind (yB b):=by
 induction a generalizing p with
 |nil=>rfl
 |cons c a ih=>
  simp only[cZ,yB]
  cases P9 c p with
  |none=>rfl
  |some p'=>simp only[cA,ih]
theorem MN {c:UInt8} {p p':List Int×Int} (h:P9 c p=some p'):p'.1.length=p.1.length+1:=by
 unfold P9 at h;split at h
 ·cases h;simp
 split at h
 ·split at h
  ·split at h
   ·cases h;simp
   cases h
  cases h
 cases h;simp
theorem P8 {t:dD} {p p':List Int×Int} (h:yB t p=some p'):p'.1.length=p.1.length+t.length:=by
 induction t generalizing p with
 |nil=>cases h;simp
 |cons c t ih=>
  simp only[yB,cV]at h;obtain⟨p1,h1,h2⟩:=h;rw[ih h2,MN h1,aM];omega
def SY (x:Int):dD:=[UInt8.ofNat (x % 256).toNat,UInt8.ofNat (x/256 % 256).toNat,UInt8.ofNat (x/65536 % 256).toNat,UInt8.ofNat (x/16777216 % 256).toNat]
def vN:List Int→dD
 |[]=>[]
 |x::l=>SY x++vN l
theorem Uj: ∀a b:List Int,vN (a++b)=vN a++vN b
 |[],b=>rfl
 |x::a,b=>by simp only[cZ,vN,Uj a b,bT]
theorem Gs: ∀a:List Int,(vN a).length=4 *a.length
 |[]=>rfl
 |x::a=>by simp only[vN,SY,aB,Gs a,aM,aU];omega
def OT:Zs:=⟨0,1880096768,0⟩
def Ya (T:List Int):List Int:=[1145390419,4 *(T.length:Int),4224]++(iL T 0 OT).2
theorem vX: ∀(T:List Int) (q:Nat) (z:Zs),(iL T q z).2.length=4 *T.length
 |[],_,_=>rfl
 |c::T,q,z=>by simp only[iL,aB,vX T,vW,aM,aU];omega
theorem J3 (a b:Int):eQ 4 a b=(gR (a+b),0):=by simp [eQ]
theorem KP (a b:Int):eQ 5 a b=(gR (a-b),0):=by simp [eQ]
theorem TL (a b:Int):eQ 6 a b=(gR (a *b),0):=by simp [eQ]
theorem Dm (a b:Int):eQ 14 a b=(if a<b then 1 else 0,0):=by simp [eQ]
theorem Uo (a b:Int):eQ 15 a b=(if a=b then 1 else 0,0):=by simp [eQ]
theorem TM (a:Int):eQ 13 a 8=(a/256,0):=by simp [eQ,pA]
theorem U4 (a:Int):eQ 13 a 16=(a/65536,0):=by simp [eQ,pA]
theorem OH (a:Int):eQ 13 a 24=(a/16777216,0):=by simp [eQ,pA]
theorem OG (a:Int):eQ 13 a 29=(a/536870912,0):=by simp [eQ,pA]
theorem YC {a:Int} (h:0≤a∧a<4294967296) (k:Nat) (t:k≤31) (b:Int) (p:b=((2^k- 1:Nat):Int)):eQ 9 a b=(a % ((2^k:Nat):Int),0):=by
 obtain⟨u,rfl⟩: ∃u:Nat,a=u:=⟨a.toNat,by omega⟩;subst p;have A:u<2^32:=by omega
 have y:(2:Nat)^k≤2^31:=Nat.pow_le_pow_right (by decide) t;have j:0<(2:Nat)^k:=Nat.pow_pos (by decide);have e:(BitVec.ofInt 32 (u:Int)).toNat=u:=by rw[BitVec.ofInt_natCast,BitVec.toNat_ofNat];omega
 have f:(BitVec.ofInt 32 ((2^k- 1:Nat):Int)).toNat=2^k- 1:=by rw[BitVec.ofInt_natCast,BitVec.toNat_ofNat];omega
 have g:(BitVec.ofInt 32 (u:Int)&&&BitVec.ofInt 32 ((2^k- 1:Nat):Int)).toNat=u % 2^k:=by
  rw[BitVec.toNat_and,e,f,Nat.and_two_pow_sub_one_eq_mod]
 have z:u % 2^k<2^k:=sF _ j;unfold eQ;rw[aJ (by decide),aJ (by decide),aJ (by decide),aJ (by decide),aJ (by decide),bD rfl,g];rw[dX _ (by omega)];simp
theorem TJ {a:Int} (h:0≤a∧a<4294967296):eQ 9 a 65535=(a % 65536,0):=YC h 16 (by decide) _ rfl
theorem TG {a:Int} (h:0≤a∧a<4294967296):eQ 9 a 536870911=(a % 536870912,0):=YC h 29 (by decide) _ rfl
theorem La (x:Int):0≤gR x∧gR x<4294967296:=by
 show 0≤IntKind.wrap .u32 x∧IntKind.wrap .u32 x<_;rw[IntKind.wrap_u32];omega
theorem eN {x:Int} (h:0≤x∧x<4294967296):gR x=x:=dX _ (by omega)
def jY (c n o x s m v d i q:Int) (arr:List Int) (rd:Nat) (out:dD) (tk:Nat):RS:=⟨[c,n,o,x,s,m,v,d,i,q],[arr],rd,out,tk⟩
structure oY (rs:dD→Bool×Int):Prop where
 c:rs [99]=(false,0)
 n:rs [110]=(false,1)
 o:rs [111]=(false,2)
 x:rs [120]=(false,3)
 s:rs [115]=(false,4)
 m:rs [109]=(false,5)
 v:rs [118]=(false,6)
 d:rs [100]=(false,7)
 i:rs [105]=(false,8)
 q:rs [113]=(false,9)
 t:(rs [116]).2=0
section
variable {cx : Cx} {rs : dD → Bool × Int} {P : RS → Prop} {l : List Sm} {c n o x s m v d i q : Int} {arr : List Int} {rd : Nat} {out : dD} {tk : Nat}
theorem oY.vc (H:oY rs):PV rs (jY c n o x s m v d i q arr rd out tk) (.mk 2 0 0 [99] []) c:= .var (by rw[H.c];rfl)
theorem oY.vn (H:oY rs):PV rs (jY c n o x s m v d i q arr rd out tk) (.mk 2 0 0 [110] []) n:= .var (by rw[H.n];rfl)
theorem oY.vo (H:oY rs):PV rs (jY c n o x s m v d i q arr rd out tk) (.mk 2 0 0 [111] []) o:= .var (by rw[H.o];rfl)
theorem oY.vx (H:oY rs):PV rs (jY c n o x s m v d i q arr rd out tk) (.mk 2 0 0 [120] []) x:= .var (by rw[H.x];rfl)
theorem oY.vs (H:oY rs):PV rs (jY c n o x s m v d i q arr rd out tk) (.mk 2 0 0 [115] []) s:= .var (by rw[H.s];rfl)
theorem oY.vm (H:oY rs):PV rs (jY c n o x s m v d i q arr rd out tk) (.mk 2 0 0 [109] []) m:= .var (by rw[H.m];rfl)
theorem oY.vv (H:oY rs):PV rs (jY c n o x s m v d i q arr rd out tk) (.mk 2 0 0 [118] []) v:= .var (by rw[H.v];rfl)
theorem oY.vd (H:oY rs):PV rs (jY c n o x s m v d i q arr rd out tk) (.mk 2 0 0 [100] []) d:= .var (by rw[H.d];rfl)
theorem oY.vi (H:oY rs):PV rs (jY c n o x s m v d i q arr rd out tk) (.mk 2 0 0 [105] []) i:= .var (by rw[H.i];rfl)
theorem oY.vq (H:oY rs):PV rs (jY c n o x s m v d i q arr rd out tk) (.mk 2 0 0 [113] []) q:= .var (by rw[H.q];rfl)
theorem oY.wc (H:oY rs) {e:Ex} {w:Int} (a:PV rs (jY c n o x s m v d i q arr rd out tk) e w) (h:Wp cx rs l (jY w n o x s m v d i q arr rd out tk) P):Wp cx rs (.mk 1 [99] [e] [] []::l) (jY c n o x s m v d i q arr rd out tk) P:= .set a H.c (by decide) (by show _<10;decide) h
theorem oY.wn (H:oY rs) {e:Ex} {w:Int} (a:PV rs (jY c n o x s m v d i q arr rd out tk) e w) (h:Wp cx rs l (jY c w o x s m v d i q arr rd out tk) P):Wp cx rs (.mk 1 [110] [e] [] []::l) (jY c n o x s m v d i q arr rd out tk) P:= .set a H.n (by decide) (by show _<10;decide) h
theorem oY.wo (H:oY rs) {e:Ex} {w:Int} (a:PV rs (jY c n o x s m v d i q arr rd out tk) e w) (h:Wp cx rs l (jY c n w x s m v d i q arr rd out tk) P):Wp cx rs (.mk 1 [111] [e] [] []::l) (jY c n o x s m v d i q arr rd out tk) P:= .set a H.o (by decide) (by show _<10;decide) h
theorem oY.wx (H:oY rs) {e:Ex} {w:Int} (a:PV rs (jY c n o x s m v d i q arr rd out tk) e w) (h:Wp cx rs l (jY c n o w s m v d i q arr rd out tk) P):Wp cx rs (.mk 1 [120] [e] [] []::l) (jY c n o x s m v d i q arr rd out tk) P:= .set a H.x (by decide) (by show _<10;decide) h
theorem oY.ws (H:oY rs) {e:Ex} {w:Int} (a:PV rs (jY c n o x s m v d i q arr rd out tk) e w) (h:Wp cx rs l (jY c n o x w m v d i q arr rd out tk) P):Wp cx rs (.mk 1 [115] [e] [] []::l) (jY c n o x s m v d i q arr rd out tk) P:= .set a H.s (by decide) (by show _<10;decide) h
theorem oY.wm (H:oY rs) {e:Ex} {w:Int} (a:PV rs (jY c n o x s m v d i q arr rd out tk) e w) (h:Wp cx rs l (jY c n o x s w v d i q arr rd out tk) P):Wp cx rs (.mk 1 [109] [e] [] []::l) (jY c n o x s m v d i q arr rd out tk) P:= .set a H.m (by decide) (by show _<10;decide) h
theorem oY.wv (H:oY rs) {e:Ex} {w:Int} (a:PV rs (jY c n o x s m v d i q arr rd out tk) e w) (h:Wp cx rs l (jY c n o x s m w d i q arr rd out tk) P):Wp cx rs (.mk 1 [118] [e] [] []::l) (jY c n o x s m v d i q arr rd out tk) P:= .set a H.v (by decide) (by show _<10;decide) h
theorem oY.wd (H:oY rs) {e:Ex} {w:Int} (a:PV rs (jY c n o x s m v d i q arr rd out tk) e w) (h:Wp cx rs l (jY c n o x s m v w i q arr rd out tk) P):Wp cx rs (.mk 1 [100] [e] [] []::l) (jY c n o x s m v d i q arr rd out tk) P:= .set a H.d (by decide) (by show _<10;decide) h
theorem oY.wi (H:oY rs) {e:Ex} {w:Int} (a:PV rs (jY c n o x s m v d i q arr rd out tk) e w) (h:Wp cx rs l (jY c n o x s m v d w q arr rd out tk) P):Wp cx rs (.mk 1 [105] [e] [] []::l) (jY c n o x s m v d i q arr rd out tk) P:= .set a H.i (by decide) (by show _<10;decide) h
theorem oY.wq (H:oY rs) {e:Ex} {w:Int} (a:PV rs (jY c n o x s m v d i q arr rd out tk) e w) (h:Wp cx rs l (jY c n o x s m v d i w arr rd out tk) P):Wp cx rs (.mk 1 [113] [e] [] []::l) (jY c n o x s m v d i q arr rd out tk) P:= .set a H.q (by decide) (by show _<10;decide) h
theorem oY.it (H:oY rs) {a:Ex} {y w:Int} (e:PV rs (jY c n o x s m v d i q arr rd out tk) a y) (b:arr[y.toNat]?=some w):PV rs (jY c n o x s m v d i q arr rd out tk) (.mk 3 0 0 [116] [a]) w:= .idx e (by rw[H.t];decide) (by rw[H.t];rfl) b
theorem oY.st (H:oY rs) {a e:Ex} {y w:Int} (j:PV rs (jY c n o x s m v d i q arr rd out tk) a y) (g:PV rs (jY c n o x s m v d i q arr rd out tk) e w) (f:y.toNat<arr.length) (h:Wp cx rs l (jY c n o x s m v d i q (arr.set y.toNat w) rd out tk) P):Wp cx rs (.mk 2 [116] [a,e] [] []::l) (jY c n o x s m v d i q arr rd out tk) P:=
 .store (b:=(rs [116]).1) (i:=0) j g (by rw[←H.t]) (Int.le_refl 0) rfl f h
end
def HG:List Sm:=[.mk 2 [116] [.mk 1 0 3043 [] [], .mk 1 0 4 [] []] [] [],
 .mk 2 [116] [.mk 1 0 3045 [] [], .mk 1 0 5 [] []] [] [],
 .mk 2 [116] [.mk 1 0 3042 [] [], .mk 1 0 6 [] []] [] [],
 .mk 2 [116] [.mk 1 0 3047 [] [], .mk 1 0 7 [] []] [] [],
 .mk 2 [116] [.mk 1 0 3037 [] [], .mk 1 0 8 [] []] [] [],
 .mk 2 [116] [.mk 1 0 3038 [] [], .mk 1 0 9 [] []] [] [],
 .mk 2 [116] [.mk 1 0 3124 [] [], .mk 1 0 10 [] []] [] [],
 .mk 2 [116] [.mk 1 0 3094 [] [], .mk 1 0 11 [] []] [] [],
 .mk 2 [116] [.mk 1 0 3076 [] [], .mk 1 0 12 [] []] [] [],
 .mk 2 [116] [.mk 1 0 3082 [] [], .mk 1 0 13 [] []] [] [],
 .mk 2 [116] [.mk 1 0 3060 [] [], .mk 1 0 14 [] []] [] [],
 .mk 2 [116] [.mk 1 0 3061 [] [], .mk 1 0 15 [] []] [] [],
 .mk 2 [116] [.mk 1 0 3033 [] [], .mk 1 0 1326579712 [] []] [] [],
 .mk 2 [116] [.mk 1 0 3063 [] [], .mk 1 0 1997537280 [] []] [] [],
 .mk 2 [116] [.mk 1 0 3064 [] [], .mk 1 0 1343357056 [] []] [] [],
 .mk 2 [116] [.mk 1 0 3035 [] [], .mk 1 0 420483072 [] []] [] [],
 .mk 2 [116] [.mk 1 0 3046 [] [], .mk 1 0 941621248 [] []] [] [],
 .mk 2 [116] [.mk 1 0 3032 [] [], .mk 1 0 1645215744 [] []] [] [],
 .mk 2 [116] [.mk 1 0 3069 [] [], .mk 1 0 908066816 [] []] [] [],
 .mk 2 [116] [.mk 1 0 3036 [] [], .mk 1 0 1509949440 [] []] [] []]
def D9:List Sm:=[.mk 2 [116] [.mk 2 0 0 [110] [], .mk 2 0 0 [99] []] [] [],
 .mk 4 [] [.mk 6 15 0 [] [.mk 6 6 0 [] [.mk 6 5 0 [] [.mk 2 0 0 [99] [], .mk 1 0 68 [] []], .mk 6 5 0 [] [.mk 2 0 0 [99] [], .mk 1 0 73 [] []]], .mk 1 0 0 [] []]] [.mk 2 [116] [.mk 2 0 0 [110] [], .mk 2 0 0 [111] []] [] [], .mk 1 [111] [.mk 2 0 0 [110] []] [] []] [],
 .mk 4 [] [.mk 6 14 0 [] [.mk 6 5 0 [] [.mk 2 0 0 [99] [], .mk 1 0 69 [] []], .mk 1 0 2 [] []]] [.mk 1 [120] [.mk 3 0 0 [116] [.mk 2 0 0 [111] []]] [] [], .mk 2 [116] [.mk 2 0 0 [111] [], .mk 6 4 0 [] [.mk 1 0 857735172 [] [], .mk 6 6 0 [] [.mk 2 0 0 [110] [], .mk 1 0 4 [] []]]] [] [], .mk 1 [111] [.mk 2 0 0 [120] []] [] []] [],
 .mk 1 [110] [.mk 6 4 0 [] [.mk 2 0 0 [110] [], .mk 1 0 1 [] []]] [] [],
 .mk 1 [99] [.mk 5 0 0 [] []] [] []]
def UZ:List Sm:=[.mk 2 [116] [.mk 1 0 4001 [] [], .mk 1 0 1145390419 [] []] [] [],
 .mk 2 [116] [.mk 1 0 4002 [] [], .mk 6 6 0 [] [.mk 2 0 0 [110] [], .mk 1 0 4 [] []]] [] [],
 .mk 2 [116] [.mk 1 0 4003 [] [], .mk 1 0 4224 [] []] [] [],
 .mk 1 [105] [.mk 1 0 4001 [] []] [] [],
 .mk 1 [115] [.mk 1 0 1880096768 [] []] [] []]
def Gm:List Sm:=[.mk 1 [120] [.mk 3 0 0 [116] [.mk 2 0 0 [105] []]] [] [],
 .mk 3 [] [.mk 2 0 0 [120] []] [] [],
 .mk 3 [] [.mk 6 13 0 [] [.mk 2 0 0 [120] [], .mk 1 0 8 [] []]] [] [],
 .mk 3 [] [.mk 6 13 0 [] [.mk 2 0 0 [120] [], .mk 1 0 16 [] []]] [] [],
 .mk 3 [] [.mk 6 13 0 [] [.mk 2 0 0 [120] [], .mk 1 0 24 [] []]] [] [],
 .mk 1 [105] [.mk 6 4 0 [] [.mk 2 0 0 [105] [], .mk 1 0 1 [] []]] [] []]
def zZ:List Sm:=[.mk 1 [99] [.mk 3 0 0 [116] [.mk 2 0 0 [113] []]] [] [],
 .mk 1 [118] [.mk 2 0 0 [99] []] [] [],
 .mk 4 [] [.mk 6 14 0 [] [.mk 2 0 0 [99] [], .mk 1 0 256 [] []]] [.mk 1 [118] [.mk 3 0 0 [116] [.mk 6 4 0 [] [.mk 2 0 0 [99] [], .mk 1 0 3000 [] []]]] [] []] [],
 .mk 4 [] [.mk 6 15 0 [] [.mk 2 0 0 [118] [], .mk 1 0 0 [] []]] [.mk 1 [118] [.mk 1 0 1125253120 [] []] [] []] [],
 .mk 4 [] [.mk 6 14 0 [] [.mk 2 0 0 [118] [], .mk 1 0 16 [] []]] [.mk 1 [118] [.mk 6 4 0 [] [.mk 6 6 0 [] [.mk 2 0 0 [118] [], .mk 1 0 16777216 [] []], .mk 1 0 537985026 [] []]] [] []] [],
 .mk 2 [116] [.mk 1 0 4000 [] [], .mk 6 4 0 [] [.mk 1 0 270532609 [] [], .mk 2 0 0 [100] []]] [] [],
 .mk 2 [116] [.mk 1 0 4001 [] [], .mk 6 4 0 [] [.mk 1 0 269484032 [] [], .mk 2 0 0 [100] []]] [] [],
 .mk 4 [] [.mk 6 14 0 [] [.mk 6 5 0 [] [.mk 2 0 0 [99] [], .mk 1 0 48 [] []], .mk 1 0 10 [] []]] [.mk 1 [109] [.mk 6 4 0 [] [.mk 6 6 0 [] [.mk 2 0 0 [109] [], .mk 1 0 10 [] []], .mk 6 5 0 [] [.mk 2 0 0 [99] [], .mk 1 0 48 [] []]]] [] []] [],
 .mk 4 [] [.mk 6 15 0 [] [.mk 2 0 0 [99] [], .mk 1 0 32 [] []]] [.mk 2 [116] [.mk 1 0 4001 [] [], .mk 6 4 0 [] [.mk 1 0 17825792 [] [], .mk 6 9 0 [] [.mk 2 0 0 [109] [], .mk 1 0 65535 [] []]]] [] [], .mk 1 [118] [.mk 6 4 0 [] [.mk 2 0 0 [118] [], .mk 6 13 0 [] [.mk 2 0 0 [109] [], .mk 1 0 16 [] []]]] [] [], .mk 1 [109] [.mk 1 0 0 [] []] [] []] [],
 .mk 4 [] [.mk 6 14 0 [] [.mk 6 5 0 [] [.mk 2 0 0 [99] [], .mk 1 0 97 [] []], .mk 1 0 26 [] []]] [.mk 1 [118] [.mk 6 4 0 [] [.mk 2 0 0 [115] [], .mk 2 0 0 [99] []]] [] [], .mk 1 [115] [.mk 1 0 1880096768 [] []] [] []] [],
 .mk 4 [] [.mk 6 15 0 [] [.mk 2 0 0 [99] [], .mk 1 0 58 [] []]] [.mk 1 [115] [.mk 1 0 824180736 [] []] [] []] [],
 .mk 4 [] [.mk 6 15 0 [] [.mk 2 0 0 [99] [], .mk 1 0 64 [] []]] [.mk 2 [116] [.mk 1 0 4001 [] [], .mk 1 0 421531648 [] []] [] []] [],
 .mk 4 [] [.mk 6 15 0 [] [.mk 2 0 0 [99] [], .mk 1 0 87 [] []]] [.mk 1 [118] [.mk 6 4 0 [] [.mk 1 0 1628438528 [] [], .mk 6 6 0 [] [.mk 2 0 0 [113] [], .mk 1 0 4 [] []]]] [] []] [],
 .mk 2 [116] [.mk 1 0 4002 [] [], .mk 6 9 0 [] [.mk 2 0 0 [118] [], .mk 1 0 536870911 [] []]] [] [],
 .mk 1 [100] [.mk 6 5 0 [] [.mk 6 4 0 [] [.mk 2 0 0 [100] [], .mk 6 13 0 [] [.mk 2 0 0 [118] [], .mk 1 0 29 [] []]], .mk 1 0 2 [] []]] [] [],
 .mk 2 [116] [.mk 1 0 4003 [] [], .mk 6 4 0 [] [.mk 1 0 286261249 [] [], .mk 2 0 0 [100] []]] [] [],
 .mk 4 [] [.mk 6 15 0 [] [.mk 2 0 0 [99] [], .mk 1 0 35 [] []]] [.mk 2 [116] [.mk 1 0 4003 [] [], .mk 1 0 287375488 [] []] [] []] [],
 .mk 1 [105] [.mk 1 0 4000 [] []] [] [],
 .mk 1 [113] [.mk 6 4 0 [] [.mk 2 0 0 [113] [], .mk 1 0 1 [] []]] [] []]
def gS:List Sm:=HG++(.mk 1 [99] [.mk 5 0 0 [] []] [] []:: .mk 5 [] [.mk 6 14 0 [] [.mk 2 0 0 [99] [], .mk 1 0 256 [] []]] D9 []::(UZ++[.mk 5 [] [.mk 7 0 0 [] [.mk 6 14 0 [] [.mk 2 0 0 [110] [], .mk 2 0 0 [113] []]]] (.mk 5 [] [.mk 6 14 0 [] [.mk 2 0 0 [105] [], .mk 1 0 4004 [] []]] Gm []::zZ) []]))
def nX:Fu:=⟨[109,97,105,110],[],[],false,gS⟩
def eZ:Pg:=⟨[[99],[110],[111],[120],[115],[109],[118],[100],[105],[113]],[⟨[116],4096⟩],[nX]⟩
theorem Wp.yes {cx:Cx} {rs:dD→Bool×Int} {st:RS} {P:RS→Prop} {l:List Sm} {s:dD} {e:Ex} {t:List Sm} {v:Int} (a:PV rs st e v) (b:v≠0) (h:Wp cx rs t st (fun f=>Wp cx rs l f P)):Wp cx rs (.mk 4 s [e] t []::l) st P:= .cond _ a (fun _=>h) (fun c=>absurd c b) fun _ h=>h
theorem Wp.no {cx:Cx} {rs:dD→Bool×Int} {st:RS} {P:RS→Prop} {l:List Sm} {s:dD} {e:Ex} {t:List Sm} {v:Int} (a:PV rs st e v) (b:v=0) (h:Wp cx rs l st P):Wp cx rs (.mk 4 s [e] t []::l) st P:= .cond (fun f=>Wp cx rs l f P) a (fun c=>absurd b c) (fun _=>h) fun _ h=>h
def AD:List (Nat×Int)→Nat→Int→Int
 |[],_,x=>x
 |(i,v)::L,j,x=>AD L j (if i=j then v else x)
def kL (L:List (Nat×Int)) (a:List Int):List Int:=L.foldl (fun a p=>a.set p.1 p.2) a
theorem Hy: ∀(L:List (Nat×Int)) (a:List Int),(kL L a).length=a.length
 |[],_=>rfl
 |p::L,a=>by show(kL L (a.set p.1 p.2)).length=_;rw[Hy L,dJ]
theorem Hz: ∀(L:List (Nat×Int)) (a:List Int) (j:Nat) (x:Int),a[j]?=some x→(kL L a)[j]?=some (AD L j x)
 |[],_,_,_,h=>h
 |(i,v)::L,a,j,x,h=>by
  show(kL L (a.set i v))[j]?=_;rw[AD];refine Hz L _ j _ ?_;have b:=(bF.1 h).1;rw[hY];by_cases c:i=j
  ·subst c;simp [b]
  simp [c,h]
theorem Yi: ∀(L:List (Nat×Int)) (j:Nat) (x:Int),(∀p∈L,p.1≠j)→AD L j x=x
 |[],_,_,_=>rfl
 |(i,v)::L,j,x,h=>by
  rw[AD,aJ (h (i,v) (dU)),Yi L j x fun p a=>h p (fC _ a)]
def GB:List (Nat×Int):=[(3043,4),(3045,5),(3042,6),(3047,7),(3037,8),(3038,9),(3124,10),(3094,11),(3076,12),(3082,13),(3060,14),(3061,15),(3033,1326579712),(3063,1997537280),(3064,1343357056),(3035,420483072),(3046,941621248),(3032,1645215744),(3069,908066816),(3036,1509949440)]
structure AT (arr T:List Int):Prop where
 len:arr.length=4096
 tl:T.length≤2600
 eq: ∀j,j<T.length→arr[j]?=T[j]?
 z: ∀j,T.length≤j→j<3000→arr[j]?=some 0
 tab: ∀c:Nat,c<256→arr[3000+c]?=some (C7 c)
def J2:List Int:=kL GB (List.replicate 4096 0)
theorem OF:AT J2 []:=by
 have b: ∀j,j<4096→(List.replicate 4096 (0:Int))[j]?=some 0:=fun j a=>by rw[qZ,bD a]
 refine⟨by rw[J2,Hy,fF],by simp,fun j a=>by simp at a,fun j _ a=>?_,fun c e=>?_⟩
 ·rw[J2,Hz GB _ j 0 (b j (by omega)),Yi]
  intro p f;have : ∀p∈GB,3000≤p.1:=by decide
  have:=this p f;omega
 rw[J2,Hz GB _ _ 0 (b _ (by omega))];have : ∀c:Nat,c<256→AD GB (3000+c) 0=C7 c:=by decide+kernel
 rw[this c e]
theorem AT.push {arr T:List Int} (h:AT arr T) (k:T.length<2600) (c:Int):AT (arr.set T.length c) (T++[c]):=by
 have p:=h.len;refine⟨by rw[dJ,h.len],by rw[aB,bS];omega,fun j g=>?_,fun j a b=>?_,fun c f=>?_⟩
 ·rw[aB,bS]at g
  rw[hY];by_cases e:T.length=j
  ·subst e;simp;omega
  rw[aJ e,h.eq j (by omega),fU (by omega)]
 ·rw[aB,bS]at a
  rw[hY,aJ (by omega),h.z j (by omega) b]
 rw[hY,aJ (by omega),h.tab c f]
theorem AT.set {arr T:List Int} (h:AT arr T) {o:Nat} (p:o<T.length) (v:Int):AT (arr.set o v) (T.set o v):=by
 have k:=h.len;have t:=h.tl;refine⟨by rw[dJ,h.len],by rw[dJ];exact h.tl,fun j a=>?_,fun j b f=>?_,fun c g=>?_⟩
 ·rw[dJ]at a
  rw[hY,hY];by_cases e:o=j
  ·subst e;simp [a];omega
  rw[aJ e,aJ e,h.eq j a]
 ·rw[dJ]at b
  rw[hY,aJ (by omega),h.z j b f]
 rw[hY,aJ (by omega),h.tab c g]
theorem HF {cx:Cx} {rs:dD→Bool×Int} (H:oY rs) {P:RS→Prop} {l:List Sm} {c n o x s m v d i q:Int} {rd:Nat} {out:dD} {tk:Nat} (h:Wp cx rs l (jY c n o x s m v d i q J2 rd out tk) P):Wp cx rs (HG++l) (jY c n o x s m v d i q (List.replicate 4096 0) rd out tk) P:=by
 unfold HG;simp only[cZ,cC];have a: ∀(L:List (Nat×Int)) (j:Nat),j<4096→j<(kL L (List.replicate 4096 0)).length:=fun L j b=>by rw[Hy,fF];exact b
 refine H.st (arr:=kL [] (List.replicate 4096 0)) .num .num (by exact a _ 3043 (by decide)) ?_;show Wp cx rs _ (jY c n o x s m v d i q (kL [(3043,4)] (List.replicate 4096 0)) rd out tk) P;refine H.st (arr:=kL [(3043,4)] (List.replicate 4096 0)) .num .num (by exact a _ 3045 (by decide)) ?_;show Wp cx rs _ (jY c n o x s m v d i q (kL [(3043,4),(3045,5)] (List.replicate 4096 0)) rd out tk) P;refine H.st (arr:=kL [(3043,4),(3045,5)] (List.replicate 4096 0)) .num .num (by exact a _ 3042 (by decide)) ?_;show Wp cx rs _ (jY c n o x s m v d i q (kL [(3043,4),(3045,5),(3042,6)] (List.replicate 4096 0)) rd out tk) P;refine H.st (arr:=kL [(3043,4),(3045,5),(3042,6)] (List.replicate 4096 0)) .num .num (by exact a _ 3047 (by decide)) ?_;show Wp cx rs _ (jY c n o x s m v d i q (kL [(3043,4),(3045,5),(3042,6),(3047,7)] (List.replicate 4096 0)) rd out tk) P;refine H.st (arr:=kL [(3043,4),(3045,5),(3042,6),(3047,7)] (List.replicate 4096 0)) .num .num (by exact a _ 3037 (by decide)) ?_;show Wp cx rs _ (jY c n o x s m v d i q (kL [(3043,4),(3045,5),(3042,6),(3047,7),(3037,8)] (List.replicate 4096 0)) rd out tk) P;refine H.st (arr:=kL [(3043,4),(3045,5),(3042,6),(3047,7),(3037,8)] (List.replicate 4096 0)) .num .num (by exact a _ 3038 (by decide)) ?_;show Wp cx rs _ (jY c n o x s m v d i q (kL [(3043,4),(3045,5),(3042,6),(3047,7),(3037,8),(3038,9)] (List.replicate 4096 0)) rd out tk) P;refine H.st (arr:=kL [(3043,4),(3045,5),(3042,6),(3047,7),(3037,8),(3038,9)] (List.replicate 4096 0)) .num .num (by exact a _ 3124 (by decide)) ?_;show Wp cx rs _ (jY c n o x s m v d i q (kL [(3043,4),(3045,5),(3042,6),(3047,7),(3037,8),(3038,9),(3124,10)] (List.replicate 4096 0)) rd out tk) P;refine H.st (arr:=kL [(3043,4),(3045,5),(3042,6),(3047,7),(3037,8),(3038,9),(3124,10)] (List.replicate 4096 0)) .num .num (by exact a _ 3094 (by decide)) ?_;show Wp cx rs _ (jY c n o x s m v d i q (kL [(3043,4),(3045,5),(3042,6),(3047,7),(3037,8),(3038,9),(3124,10),(3094,11)] (List.replicate 4096 0)) rd out tk) P;refine H.st (arr:=kL [(3043,4),(3045,5),(3042,6),(3047,7),(3037,8),(3038,9),(3124,10),(3094,11)] (List.replicate 4096 0)) .num .num (by exact a _ 3076 (by decide)) ?_;show Wp cx rs _ (jY c n o x s m v d i q (kL [(3043,4),(3045,5),(3042,6),(3047,7),(3037,8),(3038,9),(3124,10),(3094,11),(3076,12)] (List.replicate 4096 0)) rd out tk) P;refine H.st (arr:=kL [(3043,4),(3045,5),(3042,6),(3047,7),(3037,8),(3038,9),(3124,10),(3094,11),(3076,12)] (List.replicate 4096 0)) .num .num (by exact a _ 3082 (by decide)) ?_;show Wp cx rs _ (jY c n o x s m v d i q (kL [(3043,4),(3045,5),(3042,6),(3047,7),(3037,8),(3038,9),(3124,10),(3094,11),(3076,12),(3082,13)] (List.replicate 4096 0)) rd out tk) P;refine H.st (arr:=kL [(3043,4),(3045,5),(3042,6),(3047,7),(3037,8),(3038,9),(3124,10),(3094,11),(3076,12),(3082,13)] (List.replicate 4096 0)) .num .num (by exact a _ 3060 (by decide)) ?_;show Wp cx rs _ (jY c n o x s m v d i q (kL [(3043,4),(3045,5),(3042,6),(3047,7),(3037,8),(3038,9),(3124,10),(3094,11),(3076,12),(3082,13),(3060,14)] (List.replicate 4096 0)) rd out tk) P;refine H.st (arr:=kL [(3043,4),(3045,5),(3042,6),(3047,7),(3037,8),(3038,9),(3124,10),(3094,11),(3076,12),(3082,13),(3060,14)] (List.replicate 4096 0)) .num .num (by exact a _ 3061 (by decide)) ?_;show Wp cx rs _ (jY c n o x s m v d i q (kL [(3043,4),(3045,5),(3042,6),(3047,7),(3037,8),(3038,9),(3124,10),(3094,11),(3076,12),(3082,13),(3060,14),(3061,15)] (List.replicate 4096 0)) rd out tk) P;refine H.st (arr:=kL [(3043,4),(3045,5),(3042,6),(3047,7),(3037,8),(3038,9),(3124,10),(3094,11),(3076,12),(3082,13),(3060,14),(3061,15)] (List.replicate 4096 0)) .num .num (by exact a _ 3033 (by decide)) ?_;show Wp cx rs _ (jY c n o x s m v d i q (kL [(3043,4),(3045,5),(3042,6),(3047,7),(3037,8),(3038,9),(3124,10),(3094,11),(3076,12),(3082,13),(3060,14),(3061,15),(3033,1326579712)] (List.replicate 4096 0)) rd out tk) P;refine H.st (arr:=kL [(3043,4),(3045,5),(3042,6),(3047,7),(3037,8),(3038,9),(3124,10),(3094,11),(3076,12),(3082,13),(3060,14),(3061,15),(3033,1326579712)] (List.replicate 4096 0)) .num .num (by exact a _ 3063 (by decide)) ?_;show Wp cx rs _ (jY c n o x s m v d i q (kL [(3043,4),(3045,5),(3042,6),(3047,7),(3037,8),(3038,9),(3124,10),(3094,11),(3076,12),(3082,13),(3060,14),(3061,15),(3033,1326579712),(3063,1997537280)] (List.replicate 4096 0)) rd out tk) P;refine H.st (arr:=kL [(3043,4),(3045,5),(3042,6),(3047,7),(3037,8),(3038,9),(3124,10),(3094,11),(3076,12),(3082,13),(3060,14),(3061,15),(3033,1326579712),(3063,1997537280)] (List.replicate 4096 0)) .num .num (by exact a _ 3064 (by decide)) ?_;show Wp cx rs _ (jY c n o x s m v d i q (kL [(3043,4),(3045,5),(3042,6),(3047,7),(3037,8),(3038,9),(3124,10),(3094,11),(3076,12),(3082,13),(3060,14),(3061,15),(3033,1326579712),(3063,1997537280),(3064,1343357056)] (List.replicate 4096 0)) rd out tk) P;refine H.st (arr:=kL [(3043,4),(3045,5),(3042,6),(3047,7),(3037,8),(3038,9),(3124,10),(3094,11),(3076,12),(3082,13),(3060,14),(3061,15),(3033,1326579712),(3063,1997537280),(3064,1343357056)] (List.replicate 4096 0)) .num .num (by exact a _ 3035 (by decide)) ?_;show Wp cx rs _ (jY c n o x s m v d i q (kL [(3043,4),(3045,5),(3042,6),(3047,7),(3037,8),(3038,9),(3124,10),(3094,11),(3076,12),(3082,13),(3060,14),(3061,15),(3033,1326579712),(3063,1997537280),(3064,1343357056),(3035,420483072)] (List.replicate 4096 0)) rd out tk) P;refine H.st (arr:=kL [(3043,4),(3045,5),(3042,6),(3047,7),(3037,8),(3038,9),(3124,10),(3094,11),(3076,12),(3082,13),(3060,14),(3061,15),(3033,1326579712),(3063,1997537280),(3064,1343357056),(3035,420483072)] (List.replicate 4096 0)) .num .num (by exact a _ 3046 (by decide)) ?_;show Wp cx rs _ (jY c n o x s m v d i q (kL [(3043,4),(3045,5),(3042,6),(3047,7),(3037,8),(3038,9),(3124,10),(3094,11),(3076,12),(3082,13),(3060,14),(3061,15),(3033,1326579712),(3063,1997537280),(3064,1343357056),(3035,420483072),(3046,941621248)] (List.replicate 4096 0)) rd out tk) P;refine H.st (arr:=kL [(3043,4),(3045,5),(3042,6),(3047,7),(3037,8),(3038,9),(3124,10),(3094,11),(3076,12),(3082,13),(3060,14),(3061,15),(3033,1326579712),(3063,1997537280),(3064,1343357056),(3035,420483072),(3046,941621248)] (List.replicate 4096 0)) .num .num (by exact a _ 3032 (by decide)) ?_;show Wp cx rs _ (jY c n o x s m v d i q (kL [(3043,4),(3045,5),(3042,6),(3047,7),(3037,8),(3038,9),(3124,10),(3094,11),(3076,12),(3082,13),(3060,14),(3061,15),(3033,1326579712),(3063,1997537280),(3064,1343357056),(3035,420483072),(3046,941621248),(3032,1645215744)] (List.replicate 4096 0)) rd out tk) P;refine H.st (arr:=kL [(3043,4),(3045,5),(3042,6),(3047,7),(3037,8),(3038,9),(3124,10),(3094,11),(3076,12),(3082,13),(3060,14),(3061,15),(3033,1326579712),(3063,1997537280),(3064,1343357056),(3035,420483072),(3046,941621248),(3032,1645215744)] (List.replicate 4096 0)) .num .num (by exact a _ 3069 (by decide)) ?_;show Wp cx rs _ (jY c n o x s m v d i q (kL [(3043,4),(3045,5),(3042,6),(3047,7),(3037,8),(3038,9),(3124,10),(3094,11),(3076,12),(3082,13),(3060,14),(3061,15),(3033,1326579712),(3063,1997537280),(3064,1343357056),(3035,420483072),(3046,941621248),(3032,1645215744),(3069,908066816)] (List.replicate 4096 0)) rd out tk) P;refine H.st (arr:=kL [(3043,4),(3045,5),(3042,6),(3047,7),(3037,8),(3038,9),(3124,10),(3094,11),(3076,12),(3082,13),(3060,14),(3061,15),(3033,1326579712),(3063,1997537280),(3064,1343357056),(3035,420483072),(3046,941621248),(3032,1645215744),(3069,908066816)] (List.replicate 4096 0)) .num .num (by exact a _ 3036 (by decide)) ?_;show Wp cx rs _ (jY c n o x s m v d i q (kL [(3043,4),(3045,5),(3042,6),(3047,7),(3037,8),(3038,9),(3124,10),(3094,11),(3076,12),(3082,13),(3060,14),(3061,15),(3033,1326579712),(3063,1997537280),(3064,1343357056),(3035,420483072),(3046,941621248),(3032,1645215744),(3069,908066816),(3036,1509949440)] (List.replicate 4096 0)) rd out tk) P;exact h
theorem YK: ∀c:Nat,c<256→((gR (gR ((c:Int)- 68) *gR ((c:Int)- 73))=0)↔c=68∨c=73):=by decide+kernel
theorem YJ (c:Nat) (h:c<256):(gR ((c:Int)- 69)<2)↔c=69∨c=70:=by
 show IntKind.wrap .u32 _<2↔_;rw[IntKind.wrap_u32];omega
def OA (t:dD) (k:Nat):Int:=match t[k]? with
 |some c=>(c.toNat:Int)
 |none=>256
theorem NH {cx:Cx} {t:dD} (a:cx.inp=t) {c n o x s m v d i q:Int} {arr:List Int} {rd:Nat} {out:dD} {tk:Nat}:zE cx (jY c n o x s m v d i q arr rd out tk)= .val (OA t rd) (jY c n o x s m v d i q arr (if rd<t.length then rd+1 else rd) out tk):=by
 unfold zE OA;rw[a];show(match t[rd]? with |some c=>_|none=>_)=_;by_cases h:rd<t.length
 ·rw[aF h,bD h];rfl
 rw[dT (by omega),aJ h]
theorem Vr (c:UInt8):c.toNat<256:=c.toNat_lt
theorem N4 {c:UInt8} {k:Nat} (a:k<256):c.toNat=k↔c=UInt8.ofNat k:=by
 constructor
 ·intro h;rw[←h];simp
 intro h;rw[h,UInt8.toNat_ofNat'];omega
theorem UU {cx:Cx} {rs:dD→Bool×Int} (H:oY rs) {t:dD} (a:cx.inp=t) {P:RS→Prop} {l:List Sm} {c n o x s m v d i q:Int} {arr:List Int} {rd:Nat} {out:dD} {tk:Nat} (h:Wp cx rs l (jY (OA t rd) n o x s m v d i q arr (if rd<t.length then rd+1 else rd) out tk) P):Wp cx rs (.mk 1 [99] [.mk 5 0 0 [] []] [] []::l) (jY c n o x s m v d i q arr rd out tk) P:=
 .get (NH a) H.c (by decide) (by show(0:Int).toNat<10;decide) h
theorem HD {cx:Cx} {rs:dD→Bool×Int} (H:oY rs) {t:dD} (R:cx.inp=t) (hN:t.length≤2500) (hf:t.length+2<cx.fuel) {P:RS→Prop} {l:List Sm} {T:List Int} {o':Int} (J:yB t ([],0)=some (T,o'))
  (h: ∀o x arr,AT arr T→Wp cx rs l (jY 256 t.length o x 0 0 0 0 0 0 arr t.length [] (t.length+1)) P):
  Wp cx rs (.mk 1 [99] [.mk 5 0 0 [] []] [] []:: .mk 5 [] [.mk 6 14 0 [] [.mk 2 0 0 [99] [], .mk 1 0 256 [] []]] D9 []::l) (jY 0 0 0 0 0 0 0 0 0 0 J2 0 [] 0) P:=by
 refine UU H R ?_;refine Wp.loop (fun k st=> ∃g ok x arr,yB (t.take k) ([],0)=some (g,ok)∧AT arr g∧st=jY (OA t k) (k:Int) ok x 0 0 0 0 0 0 arr (if k<t.length then k+1 else k) [] (k+1)) t.length (by show 0<cx.fuel;omega) ⟨[],0,0,J2,by simp [yB],OF,rfl⟩ ?_ ?_
 rotate_left
 ·rintro _ ⟨g,ok,x,arr,p,X,rfl⟩
  rw[dG,J]at p;simp only[Option.some.injEq,Prod.mk.injEq]at p;obtain⟨rfl,rfl⟩:=p;have W:OA t t.length=256:=by unfold OA;rw[dT (bH _)]
  rw[W,aJ (OM _)];exact⟨(.op H.vc .num (Dm _ _)),h _ _ _ X⟩
 rintro k _ S ⟨g,ok,x,arr,p,A,rfl⟩;rw[bD S];obtain⟨c,G⟩: ∃c,t[k]?=some c:=⟨_,aF S⟩;have O:OA t k=(c.toNat:Int):=by unfold OA;rw[G]
 have Q:=Vr c
 obtain⟨u,D,f⟩: ∃u D,P9 c (g,ok)=some (u,D):=by
  have e:t=t.take k++(c::t.drop (k+1)):=by
   rw[bF]at G;obtain⟨_,rfl⟩:=G;rw[List.getElem_cons_drop,mJ]
  rw[e,mH,p]at J;simp only[cA,yB,cV]at J;obtain⟨⟨a,b⟩,Z,_⟩:=J;exact⟨a,b,Z⟩
 have a1:yB (t.take (k+1)) ([],0)=some (u,D):=by
  rw[List.take_add_one,G,Option.toList_some,mH,p];simp only[cA,yB,f]
 have B:g.length=k:=by
  have:=P8 p;rw[dV]at this;simp at this;omega
 have a2:=A.len;refine⟨_,(.op H.vc .num (Dm _ _)),by rw[O,bD (by omega)];decide, ?_⟩;rw[O]
 have C: ∀x E,AT E u→Wp cx rs [.mk 1 [110] [.mk 6 4 0 [] [.mk 2 0 0 [110] [], .mk 1 0 1 [] []]] [] [], .mk 1 [99] [.mk 5 0 0 [] []] [] []] (jY c.toNat k D x 0 0 0 0 0 0 E (k+1) [] (k+1)) (fun V=>V.ticks<cx.fuel∧ ∃g ok x arr,yB (t.take (k+1)) ([],0)=some (g,ok)∧AT arr g∧V.tick=jY (OA t (k+1)) ((k+1:Nat):Int) ok x 0 0 0 0 0 0 arr (if k+1<t.length then k+1+1 else k+1) [] (k+1+1)):=by
  intro x E Y;refine H.wn (.op H.vn .num (J3 _ _)) ?_;rw[eN (by omega)];refine UU H R (.nil ⟨by show k+1<cx.fuel;omega,u,D,x,E,a1,Y, ?_⟩);rfl
 unfold D9;have I:((k:Int)).toNat=k:=by simp
 refine H.st H.vn H.vc (by rw[I];omega) ?_;rw[I];unfold P9 at f;simp only at f;have K:(c=68∨c=73)↔(c.toNat=68∨c.toNat=73):=by rw[N4 (by decide),N4 (by decide)];rfl
 have M:(c=69∨c=70)↔(c.toNat=69∨c.toNat=70):=by rw[N4 (by decide),N4 (by decide)];rfl
 have N:=YK c.toNat Q;have L:=YJ c.toNat Q;by_cases z:c=68∨c=73
 ·rw[bD z]at f
  simp only[Option.some.injEq,Prod.mk.injEq]at f;obtain⟨rfl,rfl⟩:=f;refine .yes (.op (.op (.op H.vc .num (KP _ _)) (.op H.vc .num (KP _ _)) (TL _ _)) .num (Uo _ _)) (by rw[bD (N.2 (K.1 z))];decide) ?_;refine H.st H.vn H.vo (by rw[I,dJ];omega) ?_;refine H.wo H.vn (.nil ?_);refine .no (.op (.op H.vc .num (KP _ _)) .num (Dm _ _)) (by rw[aJ (fun e=>by have:=L.1 e;have:=K.1 z;omega)]) ?_;rw[I,List.set_set];have j:=A.push (by omega) ok;rw[B]at j;rw[B]at C;exact C _ _ j
 rw[aJ z]at f;refine .no (.op (.op (.op H.vc .num (KP _ _)) (.op H.vc .num (KP _ _)) (TL _ _)) .num (Uo _ _)) (by rw[aJ (fun e=>z (K.2 (N.1 e)))]) ?_;by_cases F:c=69∨c=70
 ·rw[bD F]at f
  split at f
  ·rename_i h0
   split at f
   ·rename_i y U
    simp only[Option.some.injEq,Prod.mk.injEq]at f;obtain⟨rfl,rfl⟩:=f;have a0:=(bF.1 U).1;refine .yes (.op (.op H.vc .num (KP _ _)) .num (Dm _ _)) (by rw[bD (L.2 (M.1 F))];decide) ?_;refine H.wx (H.it H.vo (by rw[hY,aJ (by omega),A.eq _ a0,U])) ?_;refine H.st H.vo (.op .num (.op H.vn .num (TL _ _)) (J3 _ _)) (by rw[dJ];omega) ?_;refine H.wo H.vx (.nil ?_);rw[eN (x:=(k:Int) *4) (by omega),eN (by omega),show(857735172+(k:Int) *4)=857735172+4 *(g.length:Int)by omega];have j:=A.push (by omega) (c.toNat:Int);rw[B]at j⊢;rw[B]at C;exact C _ _ (j.set (by rw[aB];omega) _)
   cases f
  cases f
 rw[aJ F]at f;simp only[Option.some.injEq,Prod.mk.injEq]at f;obtain⟨rfl,rfl⟩:=f;refine .no (.op (.op H.vc .num (KP _ _)) .num (Dm _ _)) (by rw[aJ (fun e=>F (M.2 (L.1 e)))]) ?_;have j:=A.push (by omega) (c.toNat:Int);rw[B]at j;exact C _ _ j
theorem MY {p:Prop} [Decidable p] {a b:Int} (e:0≤a∧a<4294967296) (f:0≤b∧b<4294967296):0≤(if p then a else b)∧(if p then a else b)<4294967296:=by
 split
 ·exact e
 exact f
theorem RG (c:Int):0≤C7 c∧C7 c<4294967296:=by
 unfold C7
 repeat (first|refine MY (by decide) ?_|decide)
theorem KV {c:Int} (h:0≤c∧c<4294967296):0≤Ge c∧Ge c<4294967296:=by
 unfold Ge;split
 ·exact RG c
 exact h
theorem KU {c:Int} (h:0≤c∧c<4294967296):0≤Ba c∧Ba c<4294967296:=by
 unfold Ba;split
 ·decide
 exact KV h
theorem KT {c:Int} (h:0≤c∧c<4294967296):0≤vF c∧vF c<4294967296:=by
 unfold vF;split
 ·exact La _
 exact KU h
theorem OQ {c:Int} {z:Zs} (h:0≤z.m∧z.m<4294967296):0≤Vf c z∧Vf c z<4294967296:=by
 unfold Vf;split
 ·exact La _
 exact h
theorem UC {c:Int} {z:Zs} (h:0≤z.m∧z.m<4294967296):0≤Me c z∧Me c z<4294967296:=by
 unfold Me;split
 ·decide
 exact OQ h
theorem UB {c:Int} {z:Zs} (h:0≤c∧c<4294967296):0≤L8 c z∧L8 c z<4294967296:=by
 unfold L8;split
 ·exact La _
 exact KT h
theorem UA {c:Int} {z:Zs} (h:0≤c∧c<4294967296):0≤A4 c z∧A4 c z<4294967296:=by
 unfold A4;split
 ·exact La _
 exact UB h
theorem TZ {q c:Int} {z:Zs} (h:0≤c∧c<4294967296):0≤Md q c z∧Md q c z<4294967296:=by
 unfold Md;split
 ·exact La _
 exact UA h
def PW (arr pend:List Int):Prop:= ∀j,j<pend.length→arr[4004 -pend.length+j]?=pend[j]?
section
variable {cx : Cx} {rs : dD → Bool × Int} {P : RS → Prop} {l : List Sm} {c n o x s m v d i q : Int} {arr : List Int} {rd : Nat} {out : dD} {tk : Nat}
theorem oY.put {e:Ex} {w:Int} (b:PV rs (jY c n o x s m v d i q arr rd out tk) e w) (a:out.length<65536) (h:Wp cx rs l (jY c n o x s m v d i q arr rd (out++[UInt8.ofNat (w % 256).toNat]) tk) P):Wp cx rs (.mk 3 [] [e] [] []::l) (jY c n o x s m v d i q arr rd out tk) P:=by
 refine .put b a ?_;rw[IntKind.wrap_u8];exact h
theorem W8 (H:oY rs) {a:List Int} (z:a.length≤4) (p:PW arr a) (y:out.length≤60000) (u:tk+1+a.length<cx.fuel)
  (h: ∀x,Wp cx rs l (jY c n o x s m v d 4004 q arr rd (out++vN a) (tk+1+a.length)) P):Wp cx rs (.mk 5 [] [.mk 6 14 0 [] [.mk 2 0 0 [105] [], .mk 1 0 4004 [] []]] Gm []::l) (jY c n o x s m v d (4004 -(a.length:Int)) q arr rd out tk) P:=by
 refine Wp.loop (fun j st=> ∃x,st=jY c n o x s m v d (4004 -(a.length:Int)+(j:Int)) q arr rd (out++vN (a.take j)) (tk+1+j)) a.length (by show tk<cx.fuel;omega) ⟨x,by rw[gD,show vN []=[]from rfl,dQ,show(4004 -(a.length:Int)+((0:Nat):Int))=4004 -(a.length:Int)by omega];rfl⟩ ?_ ?_
 rotate_left
 ·rintro _ ⟨x,rfl⟩
  refine⟨(by have e:PV rs (jY c n o x s m v d (4004 -(a.length:Int)+(a.length:Int)) q arr rd (out++vN (a.take a.length)) (tk+1+a.length)) (.mk 6 14 0 [] [.mk 2 0 0 [105] [], .mk 1 0 4004 [] []]) _:=(.op H.vi .num (Dm _ _));rw[aJ (by omega)]at e;exact e), ?_⟩;rw[dG,show(4004 -(a.length:Int)+(a.length:Int))=4004 by omega];exact h x
 rintro j _ b ⟨x,rfl⟩;refine⟨_,(.op H.vi .num (Dm _ _)),by rw[bD (by omega)];decide, ?_⟩;have t:(vN (a.take j)).length≤16:=by rw[Gs,dV];omega
 have g:=aF b;have k:a.take (j+1)=a.take j++[a[j]]:=bW b;have f:=p j b;rw[g]at f;generalize a[j]=w at *;unfold Gm;refine H.wx (H.it H.vi (by rw[show(4004 -(a.length:Int)+(j:Int)).toNat=4004 -a.length+j by omega];exact f)) ?_;refine oY.put H.vx (by rw[aB];omega) ?_;refine oY.put (.op H.vx .num (TM _)) (by simp only[aB,aM,aU];omega) ?_;refine oY.put (.op H.vx .num (U4 _)) (by simp only[aB,aM,aU];omega) ?_;refine oY.put (.op H.vx .num (OH _)) (by simp only[aB,aM,aU];omega) ?_;refine H.wi (.op H.vi .num (J3 _ _)) (.nil ⟨by show tk+1+j<cx.fuel;omega,w, ?_⟩);rw[eN (by omega),k,Uj];simp only[vN,SY,dQ,bT,cZ,cC];rw[show(4004 -(a.length:Int)+(j:Int)+1)=4004 -(a.length:Int)+((j+1:Nat):Int)by omega];rfl
theorem gX {a:List Int} {i j:Nat} {v:Int} (h:i<a.length):(a.set i v)[j]?=if i=j then some v else a[j]?:=by
 rw[hY];by_cases e:i=j
 ·rw[bD e,bD e,bD (e▸h)]
 rw[aJ e,aJ e]
structure OB (a0 arr:List Int) (w:List Int):Prop where
 len:arr.length=4096
 low: ∀j,j<4000→arr[j]?=a0[j]?
 w: ∀j,j<w.length→arr[4000+j]?=w[j]?
theorem OB.push {b arr w:List Int} (h:OB b arr w) (p:w.length<4) {k:Nat} (f:k=4000+w.length) (x:Int):OB b (arr.set k x) (w++[x]):=by
 have g:=h.len;subst f;refine⟨by rw[dJ];exact h.len,fun j a=>?_,fun j a=>?_⟩
 ·rw[gX (by omega),aJ (by omega)];exact h.low j a
 rw[aB,bS]at a;rw[gX (by omega)];by_cases e:w.length=j
 ·subst e;simp
 rw[aJ (by omega),fU (by omega)];exact h.w j (by omega)
theorem OB.turn {b arr w:List Int} {y:Int} (h:OB b arr (w++[y])) (p:w.length<4) {k:Nat} (f:k=4000+w.length) (x:Int):OB b (arr.set k x) (w++[x]):=by
 have g:=h.len;subst f;refine⟨by rw[dJ];exact h.len,fun j a=>?_,fun j a=>?_⟩
 ·rw[gX (by omega),aJ (by omega)];exact h.low j a
 rw[aB,bS]at a;rw[gX (by omega)];by_cases e:w.length=j
 ·subst e;simp
 have:=h.w j (by rw[aB,bS];omega);rw[aJ (by omega),this,fU (by omega),fU (by omega)]
theorem E0 (H:oY rs) {I:Int} {z:Zs} (O:arr.length=4096) (u:0≤c∧c<4294967296) (M:arr[q.toNat]?=some c) (R: ∀k:Nat,k<256→arr[3000+k]?=some (C7 k)) (Q:0≤z.m∧z.m<4294967296)
  (h: ∀v D,OB arr D (vW q c z)→Wp cx rs l (jY c n o x (A5 c z) (Me c z) v (zd q c z) 4000 (gR (q+1)) D rd out tk) P):Wp cx rs (zZ++l) (jY I n o x z.s z.m v z.d i q arr rd out tk) P:=by
 unfold zZ;simp only[cZ,cC];refine H.wc (H.it H.vq M) ?_;refine H.wv H.vc ?_;refine .cond (fun g=>g=jY c n o x z.s z.m (Ge c) z.d i q arr rd out tk) (.op H.vc .num (Dm _ _)) (fun a=>?_) (fun a=>?_) ?_
 ·have b:c<256:=by by_cases e:c<256;exact e;rw[aJ e]at a;exact absurd rfl a
  have F:=R c.toNat (by omega);have J:gR (c+3000)=c+3000:=eN (by omega);have K:((c.toNat:Nat):Int)=c:=by omega
  rw[K]at F;refine H.wv (H.it (.op H.vc .num (J3 _ _)) (by rw[J,show(c+3000).toNat=3000+c.toNat by omega];exact F)) (.nil ?_);rw[Ge,bD b]
 ·have b: ¬c<256:=fun e=>by rw[bD e]at a;exact absurd a (by decide)
  rw[Ge,aJ b]
 rintro _ rfl;have T:=KV u;refine .cond (fun g=>g=jY c n o x z.s z.m (Ba c) z.d i q arr rd out tk) (.op H.vv .num (Uo _ _)) (fun a=>?_) (fun a=>?_) ?_
 ·have b:Ge c=0:=by by_cases e:Ge c=0;exact e;rw[aJ e]at a;exact absurd rfl a
  refine H.wv .num (.nil ?_);rw[Ba,bD b]
 ·have b: ¬Ge c=0:=fun e=>by rw[bD e]at a;exact absurd a (by decide)
  rw[Ba,aJ b]
 rintro _ rfl;have U:=KU u;refine .cond (fun g=>g=jY c n o x z.s z.m (vF c) z.d i q arr rd out tk) (.op H.vv .num (Dm _ _)) (fun a=>?_) (fun a=>?_) ?_
 ·have b:Ba c<16:=by by_cases e:Ba c<16;exact e;rw[aJ e]at a;exact absurd rfl a
  refine H.wv (.op (.op H.vv .num (TL _ _)) .num (J3 _ _)) (.nil ?_);rw[vF,bD b]
 ·have b: ¬Ba c<16:=fun e=>by rw[bD e]at a;exact absurd a (by decide)
  rw[vF,aJ b]
 rintro _ rfl;have V:=KT u;have L:(4000:Int).toNat=4000:=rfl;have B:(4001:Int).toNat=4001:=rfl;have E:(4002:Int).toNat=4002:=rfl;have C:(4003:Int).toNat=4003:=rfl;refine H.st .num (.op .num H.vd (J3 _ _)) (by rw[L];omega) ?_;refine H.st .num (.op .num H.vd (J3 _ _)) (by rw[B,dJ];omega) ?_;have f:OB arr ((arr.set (4000:Int).toNat (gR (270532609+z.d))).set (4001:Int).toNat (gR (269484032+z.d))) [gR (270532609+z.d),gR (269484032+z.d)]:=((⟨O,fun _ _=>rfl,fun j N=>by simp at N⟩:OB arr arr []).push (by simp) rfl _).push (by simp) rfl _;generalize(arr.set (4000:Int).toNat (gR (270532609+z.d))).set (4001:Int).toNat (gR (269484032+z.d))=y at *;refine .cond (fun g=>g=jY c n o x z.s (Vf c z) (vF c) z.d i q y rd out tk) (.op (.op H.vc .num (KP _ _)) .num (Dm _ _)) (fun a=>?_) (fun a=>?_) ?_
 ·have b:gR (c- 48)<10:=by by_cases e:gR (c- 48)<10;exact e;rw[aJ e]at a;exact absurd rfl a
  refine H.wm (.op (.op H.vm .num (TL _ _)) (.op H.vc .num (KP _ _)) (J3 _ _)) (.nil ?_);rw[Vf,bD b]
 ·have b: ¬gR (c- 48)<10:=fun e=>by rw[bD e]at a;exact absurd a (by decide)
  rw[Vf,aJ b]
 rintro _ rfl;have W:=OQ (c:=c) Q;refine .cond (fun g=> ∃p,g=jY c n o x z.s (Me c z) (L8 c z) z.d i q p rd out tk∧OB arr p [gR (270532609+z.d),BW c z]) (.op H.vc .num (Uo _ _)) (fun a=>?_) (fun a=>?_) ?_
 ·have b:c=32:=by by_cases e:c=32;exact e;rw[aJ e]at a;exact absurd rfl a
  refine H.st .num (.op .num (.op H.vm .num (TJ (by omega))) (J3 _ _)) (by rw[B];have:=f.len;omega) ?_;refine H.wv (.op H.vv (.op H.vm .num (U4 _)) (J3 _ _)) ?_;refine H.wm .num (.nil ⟨y.set (4001:Int).toNat (gR (17825792+Vf c z % 65536)), ?_, ?_⟩)
  ·rw[L8,Me,bD b,bD b]
  rw[BW,bD b];exact OB.turn (w:=[gR (270532609+z.d)]) f (by simp) rfl _
 ·have b: ¬c=32:=fun e=>by rw[bD e]at a;exact absurd a (by decide)
  refine⟨y, ?_, ?_⟩
  ·rw[L8,Me,aJ b,aJ b]
  rw[BW,aJ b];exact f
 rintro _ ⟨p,rfl,f⟩;refine .cond (fun g=>g=jY c n o x (BQ c z) (Me c z) (A4 c z) z.d i q p rd out tk) (.op (.op H.vc .num (KP _ _)) .num (Dm _ _)) (fun a=>?_) (fun a=>?_) ?_
 ·have b:gR (c- 97)<26:=by by_cases e:gR (c- 97)<26;exact e;rw[aJ e]at a;exact absurd rfl a
  refine H.wv (.op H.vs H.vc (J3 _ _)) ?_;refine H.ws .num (.nil ?_);rw[A4,BQ,bD b,bD b]
 ·have b: ¬gR (c- 97)<26:=fun e=>by rw[bD e]at a;exact absurd a (by decide)
  rw[A4,BQ,aJ b,aJ b]
 rintro _ rfl;refine .cond (fun g=>g=jY c n o x (A5 c z) (Me c z) (A4 c z) z.d i q p rd out tk) (.op H.vc .num (Uo _ _)) (fun a=>?_) (fun a=>?_) ?_
 ·have b:c=58:=by by_cases e:c=58;exact e;rw[aJ e]at a;exact absurd rfl a
  refine H.ws .num (.nil ?_);rw[A5,bD b]
 ·have b: ¬c=58:=fun e=>by rw[bD e]at a;exact absurd a (by decide)
  rw[A5,aJ b]
 rintro _ rfl;refine .cond (fun g=> ∃t,g=jY c n o x (A5 c z) (Me c z) (A4 c z) z.d i q t rd out tk∧OB arr t [gR (270532609+z.d),U5 c z]) (.op H.vc .num (Uo _ _)) (fun a=>?_) (fun a=>?_) ?_
 ·have b:c=64:=by by_cases e:c=64;exact e;rw[aJ e]at a;exact absurd rfl a
  refine H.st .num .num (by rw[B];have:=f.len;omega) (.nil ⟨_,rfl, ?_⟩);rw[U5,bD b];exact OB.turn (w:=[gR (270532609+z.d)]) f (by simp) rfl _
 ·have b: ¬c=64:=fun e=>by rw[bD e]at a;exact absurd a (by decide)
  refine⟨p,rfl, ?_⟩;rw[U5,aJ b];exact f
 rintro _ ⟨t,rfl,f⟩;refine .cond (fun g=>g=jY c n o x (A5 c z) (Me c z) (Md q c z) z.d i q t rd out tk) (.op H.vc .num (Uo _ _)) (fun a=>?_) (fun a=>?_) ?_
 ·have b:c=87:=by by_cases e:c=87;exact e;rw[aJ e]at a;exact absurd rfl a
  refine H.wv (.op .num (.op H.vq .num (TL _ _)) (J3 _ _)) (.nil ?_);rw[Md,bD b]
 ·have b: ¬c=87:=fun e=>by rw[bD e]at a;exact absurd a (by decide)
  rw[Md,aJ b]
 rintro _ rfl;have X:=TZ (q:=q) (z:=z) u;refine H.st .num (.op H.vv .num (TG (by omega))) (by rw[E];have:=f.len;omega) ?_;have f:=f.push (by simp) (k:=4002) rfl (Md q c z % 536870912);rw[E];refine H.wd (.op (.op H.vd (.op H.vv .num (OG _)) (J3 _ _)) .num (KP _ _)) ?_;refine H.st .num (.op .num H.vd (J3 _ _)) (by rw[C];have:=f.len;omega) ?_;have f:=f.push (by simp) (k:=4003) rfl (gR (286261249+zd q c z));rw[C];have S:gR (gR (z.d+Md q c z/536870912)- 2)=zd q c z:=rfl;rw[S];generalize((t.set 4002 (Md q c z % 536870912)).set 4003 (gR (286261249+zd q c z)))=G at *;refine .cond (fun g=> ∃A,g=jY c n o x (A5 c z) (Me c z) (Md q c z) (zd q c z) i q A rd out tk∧OB arr A (vW q c z)) (.op H.vc .num (Uo _ _)) (fun a=>?_) (fun a=>?_) ?_
 ·have b:c=35:=by by_cases e:c=35;exact e;rw[aJ e]at a;exact absurd rfl a
  refine H.st .num .num (by rw[C];have:=f.len;omega) (.nil ⟨_,rfl, ?_⟩);rw[vW,BV,bD b];exact OB.turn (w:=[gR (270532609+z.d),U5 c z,Md q c z % 536870912]) f (by simp) rfl _
 ·have b: ¬c=35:=fun e=>by rw[bD e]at a;exact absurd a (by decide)
  refine⟨G,rfl, ?_⟩;rw[vW,BV,aJ b];exact f
 rintro _ ⟨A,rfl,f⟩;refine H.wi .num ?_;refine H.wq (.op H.vq .num (J3 _ _)) ?_;exact h _ _ f
end
end Go.Al
namespace Go.Proofs.YtaecpjgmcffliaaGreatDoor
open Go.Al Go.Proofs.Tryz
theorem IS {g:Type} {T:List fX} (i:Sz T) {w c:Bool} {n b:Nat} {a:fX} {k:Int} (d:kV c b (PR.ok a b)=kV w n (kH T k n)) {G:Int→PR g} {f:PR g} (h:kV c b (G a.num)=f):kV c b (G (IntKind.wrap .i64 a.num))=f:=by
 cases c with
 |true=>exact h
 |false=>
  cases w with
  |true=>cases d
  |false=>
   rw[nL,nL]at d;have j:=kK d.symm;have e:=(i.tok _ (aW j.2.2.1)).1;rw[aS _ (by have:=e.1;have:=e.2;omega)];exact h
def Dz (T:List fX) (vs:List dD) (ar:List Ar) (fs:List Fu) (m:Nat):PR Pg:=(JE T m).bind fun g m=>(Ix T (fs++[g]) m).bind fun fs m=> .ok ⟨vs,ar,fs⟩ m
theorem O8 (T:List fX) (vs:List dD) (a:List Ar) (m:Nat):Pn T (vs,a) m=(fB T zN m).bind fun _ m=>Dz T vs a [] m:=by
 unfold Pn;rw[JF,mI];simp only[Dz,cC]
theorem JD (T:List fX) (vs:List dD) (b:List Ar) (a:List Fu) (m:Nat) (h:m<T.length):((Ix T a m).bind fun a m=>(.ok ⟨vs,b,a⟩ m:PR Pg))=(fB T zN m).bind fun _ m=>Dz T vs b a m:=by
 rw[Iw,bD h,JF,mI,mI];simp only[Dz]
theorem Z2 (F:Nat) {T:List fX} (hT:Sz T) (n:Nat) (w:Bool) (hn:n≤T.length):pW 65 [] F T n w XZ (kV w n (Ea T n)):=by
 unfold pW;generalize p:kV w n (Ea T n)=c1;rw[HJ]at p;have w1:=hT.len;have d:=mP F T n w;refine bY 78 [.cell 2 26] func65 ?_;refine aA fun K I=>?_;simp only[RR,seval];refine aN fun y c0=>?_;have a4:=cY c0 d;have d4:=a4.symm;simp only[RR,seval];refine I _ _ (aA fun K I=>?_);simp only[RR,seval];refine aN fun z g7=>?_;have a5:z≠F:=fun e=>by rw[e]at g7;simp only[d,d4,RR,seval,reduceCtorEq]at g7
 have a8:=a5.symm;have q8:z≠y:=fun e=>by rw[e]at g7;simp only[RR,seval,reduceCtorEq]at g7
 have a3:=q8.symm;simp only[RR,seval];refine I _ _ (aI (bQ fun F1 M1 o j=>?_));have u:=o 0;have A:=o 2;have B:=o 3;have C:=j F;have f:=j y;have g:=j z;simp only[d,d4,a8,a3,RR,seval]at u A B C f g;have d:=C;refine aQ (iQ [0,2,3] (T.length-n) (fun k fr M=>M y=M1 y∧(∃(m:Nat) (V:Bool) (vs:List dD) (U:List Ar) (v1 v2:AV),k=T.length-m∧n≤m∧m≤T.length∧vs.length≤1000001 *(m+1)∧U.length≤m∧kV V m ((Eg T vs U m).bind (Pn T))=c1∧eB 1 v1 (vs.map bM) M∧eB 2 v2 (U.map Ar.row) M∧M z=some (.rows 3 [[v1,v2, .nsl]])∧M F=some (.rows 3 [[.isl 4 (T.map fX.row), .int .i64 (m:Nat), .bool V]]))) ⟨rfl,n,w,[],[], .nsl, .nsl,rfl,bH _,hn,cK _,cK _,p, .inl ⟨rfl,rfl⟩, .inl ⟨rfl,rfl⟩,g,d⟩ ?_);rintro k F2 M2 ⟨i,m,V,vs,U,v1,v2,rfl,j9,hm,w7,u6,p,H,D,g,d⟩ a7 K0 j5;have u:=(a7 0 rfl).trans u;have A:=(a7 2 rfl).trans A;have B:=(a7 3 rfl).trans B;have f:=i.trans f;have a9:=bB.refl [0,2,3] F2;have Q:=i;clear a7;have Z:=H.offsz g (by decide);have g8:=D.offsz g (by decide);have w5:=H.one1;have u7:=H.cells;have w6:=D.one1;have u8:=D.cells;refine aI (aA fun K I=>?_);simp only[u,d,RR,seval];refine I _ _ (aV ?_ ?_)<;>intro hc
 ·have j0:=hc;clear hc
  rw[JA]at p;simp only[An,mI,PR.bind_ok]at p;refine aL ?_;simp only[RR];refine aQ (aI (aA fun K I=>?_));simp only[u,RR,seval];refine gK (jZ F hT m V hm V1 (by decide)) d trivial fun M3 p4 f8=>?_;have i:=f8 y _ a4 f;have Q:=(i.trans f.symm).trans Q;have t:=f8 z _ a5 g;have f:=i;have g:=t;have H:=eB.kp H d (by decide) f8;have D:=eB.kp D d (by decide) f8;have d:=p4;simp only[RR,seval];refine I _ _ (aV ?_ ?_)<;>intro d8
  ·have p:=rN d8 p
   rw[bD d8]at d;have w2:=jO d8 (by decide);refine bQ fun F4 M4 o j=>?_;have J:=o 0;have L:=o 2;have N:=o 3;have i:=j y;have C:=j F;have t:=j z;simp only[u,A,B,f,d,g,RR,seval]at J L N i C t;have a9:bB [0,2,3] F2 F4:=bB.same o (by repeat (first|exact a9|refine bB.upd rfl ?_));have Q:=(j y).trans Q;have H:=H.same j;have D:=D.same j;have u:=J;have A:=L;have B:=N;have f:=i;have d:=C;have g:=t;refine aC fun K I=>?_;refine bA (fun x=>x≠z∧x≠y) [(0,3),(1,0),(2,3),(3,1),(4,1),(5,3)] [(6,1)] eE (by kernel_rfl) rfl rfl ?_;simp only[*,dL,fW,RR,seval];refine T8 (wN F hT (m+1) V (by omega)) d (by trivial) fun j4 q4 r2 M5 n8 v0 o6 u9 p5 f9=>?_;have p:=dA p n8;have i:=f9 y _ a4 f;have Q:=(i.trans f.symm).trans Q;have t:=f9 z _ a5 g;have f:=i;have g:=t;have H:=eB.kp H d (by decide) f9;have D:=eB.kp D d (by decide) f9;have d:=p5;simp only[strs,Ie,RR,seval];refine iZ H (by simp only[aG];omega) (fun b e=>by(repeat' apply And.intro)<;>(intro c;subst c;first|exact Z _ _ e|exact H.nb' f (by decide) e)) fun v4 M6 c3 a2 c2=>?_;have b1:=c2 z Z (by rw[g];exact bZ _);simp only[B,RR,seval];have i:=a2 y _ f (by exact(H).nb' f (by decide));have Q:=(i.trans f.symm).trans Q;have f:=i;have C:=a2 F _ d (by exact(H).nb' d (by decide));have d:=C;have t:=a2 z _ g (by exact(H).nb' g (by decide));have g:=t;have c5:=c3.cells;have d0:=c3.one1;simp only[c5,d0,cA,List.drop,g,RR,seval];apply I;have D:=D.app2 H (by decide) a2;refine bQ fun F7 M7 o j=>?_;have J:=o 0;have L:=o 2;have N:=o 3;have i:=j y;have C:=j F;have g:=j z;simp only[u,A,B,f,d,a8,a3,RR,seval]at J L N i C g;have a9:bB [0,2,3] F2 F7:=bB.same o (by repeat (first|exact a9|refine bB.upd rfl ?_));have Q:=(j y).trans (by(simp only[a3,aT,seval];exact Q));have c3:=(c3.off b1 _).same j;have D:=(D.off g8 _).same j;have u:=J;have A:=L;have B:=N;have f:=i;have d:=C;refine aA fun K I=>?_;simp only[u,RR,seval];refine dS (fM F hT q4 r2 o6 [59] (by decide)) d trivial fun u2 j1 k6 M8 n9 v5 j7 p6 g1=>?_;have p:=dA p n9;have i:=g1 y _ a4 f;have Q:=(i.trans f.symm).trans Q;have t:=g1 z _ a5 g;have f:=i;have g:=t;have c3:=eB.kp c3 d (by decide) g1;have D:=eB.kp D d (by decide) g1;have d:=p6;simp only[RR,seval];apply I;obtain⟨mz,p3⟩: ∃mz:Nat,mz=j1:=⟨_,rfl⟩;refine cG ?_;simp only[RR,seval];refine j5 (T.length-mz) _ _ (by omega) ⟨Q, ?_⟩ (by repeat (first|exact a9|refine bB.upd rfl ?_))
   first
    |(refine⟨j1,k6,vs++j4,U,_,v2, ?_, ?_,j7, ?_, ?_, ?_, ?_,D,g,d⟩;omega;omega;(simp only[aB];omega);omega;exact p;(rw[cO];exact c3))
    |(refine⟨j3,k8,vs,U++[⟨h5.text,IntKind.wrap .i64 h6.num⟩],v1,_, ?_, ?_,j8, ?_, ?_, ?_,H.off k0 _, ?_,bC _ _ _, ?_⟩;omega;omega;omega;(simp only[aB,aM,aU];omega);exact p;(rw[cO];exact g9.off b1 _);(simp only[*,aG,strs,WU,Ie,aT,RR,seval];done))
  have p:=rO d8 p;rw[aJ (dK.1 d8)]at d;refine aL ?_;simp only[RR];refine aI (aA fun K I=>?_);simp only[u,RR,seval];refine gK (jZ F hT m V hm B7 (by decide)) d trivial fun M9 p7 g5=>?_;have i:=g5 y _ a4 f;have Q:=(i.trans f.symm).trans Q;have t:=g5 z _ a5 g;have f:=i;have g:=t;have H:=eB.kp H d (by decide) g5;have D:=eB.kp D d (by decide) g5;have d:=p7;simp only[RR,seval];refine I _ _ (aV ?_ ?_)<;>intro d9
  ·have p:=rN d9 p
   rw[bD d9]at d;have w3:=jO d9 (by decide);refine bQ fun k9 s0 o j=>?_;have J:=o 0;have L:=o 2;have N:=o 3;have i:=j y;have C:=j F;have t:=j z;simp only[u,A,B,f,d,g,RR,seval]at J L N i C t;have a9:bB [0,2,3] F2 k9:=bB.same o (by repeat (first|exact a9|refine bB.upd rfl ?_));have Q:=(j y).trans Q;have H:=H.same j;have D:=D.same j;have u:=J;have A:=L;have B:=N;have f:=i;have d:=C;have g:=t;refine aA fun K I=>?_;simp only[u,RR,seval];refine dS (oQ F hT (m+1) V (by omega) 1 (by decide)) d trivial fun h5 q5 r3 s1 o0 v6 o7 p8 g6=>?_;have p:=dA p o0;have i:=g6 y _ a4 f;have Q:=(i.trans f.symm).trans Q;have t:=g6 z _ a5 g;have f:=i;have g:=t;have H:=eB.kp H d (by decide) g6;have D:=eB.kp D d (by decide) g6;have d:=p8;simp only[RR,seval];refine aN fun b4 e7=>?_;have q9:=cY e7 f;have h1:=q9.symm;have f1:=cY e7 d;have k5:=f1.symm;have r1:=cY e7 g;have k2:=r1.symm;simp only[RR,seval];apply I;have i9:=H.offnone e7;have e8:=D.offnone e7;refine bQ fun l0 s2 o j=>?_;have J:=o 0;have L:=o 2;have N:=o 3;have f4:=o 4;have i:=j y;have C:=j F;have t:=j z;have a6:=j b4;simp only[u,A,B,f,d,g,h1,k5,k2,RR,seval]at J L N f4 i C t a6;have a9:bB [0,2,3] F2 l0:=bB.same o (by repeat (first|exact a9|refine bB.upd rfl ?_));have Q:=(j y).trans (by(simp only[h1,aT,seval];exact Q));have H:=((H.off i9 _).off i9 _).same j;have D:=((D.off e8 _).off e8 _).same j;have u:=J;have A:=L;have B:=N;have f:=i;have d:=C;have g:=t;refine aA fun K I=>?_;simp only[u,RR,seval];refine dS (fM F hT q5 r3 o7 [91] (by decide)) d trivial fun u3 q6 r4 s3 o1 v7 o8 p9 e0=>?_;have p:=dA p o1;have i:=e0 y _ a4 f;have Q:=(i.trans f.symm).trans Q;have t:=e0 z _ a5 g;have b7:=e0 b4 _ f1 a6;have f:=i;have g:=t;have a6:=b7;have H:=eB.kp H d (by decide) e0;have D:=eB.kp D d (by decide) e0;have d:=p9;simp only[RR,seval];refine I _ _ (aA fun K I=>?_);simp only[u,RR,seval];refine dS (oQ F hT q6 r4 o8 2 (by decide)) d trivial fun h6 j2 k7 s4 j6 v8 o9 q0 e1=>?_;have p:=dA p j6;have i:=e1 y _ a4 f;have Q:=(i.trans f.symm).trans Q;have t:=e1 z _ a5 g;have b7:=e1 b4 _ f1 a6;have f:=i;have g:=t;have a6:=b7;have H:=eB.kp H d (by decide) e1;have D:=eB.kp D d (by decide) e1;have d:=q0;simp only[RR,seval];apply I;obtain⟨G,hG⟩: ∃G:Int→PR Pg,G=fun x=>(fB T [93] j2).bind fun _ m=>(fB T [59] m).bind fun _ m=>(Eg T vs (U++[⟨h5.text,x⟩]) m).bind (Pn T):=⟨_,rfl⟩;have p:kV k7 j2 (G h6.num)=c1:=by rw[hG];exact p
   have p:=IS (G:=G) hT j6 p;rw[hG]at p;dsimp only at p;refine aA fun K I=>?_;simp only[u,RR,seval];refine dS (fM F hT j2 k7 o9 [93] (by decide)) d trivial fun u4 q7 r5 s5 o2 v9 p0 q1 e2=>?_;have p:=dA p o2;have i:=e2 y _ a4 f;have Q:=(i.trans f.symm).trans Q;have t:=e2 z _ a5 g;have b7:=e2 b4 _ f1 a6;have f:=i;have g:=t;have a6:=b7;have H:=eB.kp H d (by decide) e2;have D:=eB.kp D d (by decide) e2;have d:=q1;simp only[RR,seval];refine I _ _ (aA fun K I=>?_);simp only[u,RR,seval];refine dS (fM F hT q7 r5 p0 [59] (by decide)) d trivial fun u5 j3 k8 s6 o3 w0 j8 q2 e3=>?_;have p:=dA p o3;have i:=e3 y _ a4 f;have Q:=(i.trans f.symm).trans Q;have t:=e3 z _ a5 g;have b7:=e3 b4 _ f1 a6;have f:=i;have g:=t;have a6:=b7;have H:=eB.kp H d (by decide) e3;have D:=eB.kp D d (by decide) e3;have d:=q2;simp only[RR,seval];apply I;obtain⟨mz,p3⟩: ∃mz:Nat,mz=j3:=⟨_,rfl⟩;refine aA fun K I=>?_;simp only[f4,a6,RR,seval];refine I _ _ (bQ fun l1 s7 o j=>?_);have J:=o 0;have L:=o 2;have N:=o 3;have g4:=o 4;have f5:=o 5;have i:=j y;have C:=j F;have t:=j z;have a6:=j b4;simp only[u,A,B,f4,f,d,g,h1,k5,k2,RR,seval]at J L N g4 f5 i C t a6;have a9:bB [0,2,3] F2 l1:=bB.same o (by repeat (first|exact a9|refine bB.upd rfl ?_));have Q:=(j y).trans (by(simp only[h1,aT,seval];exact Q));have H:=(H.off i9 _).same j;have D:=(D.off e8 _).same j;have k0:=Z;have Z:=g8;have u:=J;have A:=L;have B:=N;have f4:=g4;have f:=i;have d:=C;have g:=t;refine aA fun K I=>?_;simp only[*,RR,seval];refine dO ?_;simp only[RR,seval];refine iZ D (by simp only[aG,aM,aU];omega) (fun b e=>by trivial) fun w8 s8 g9 a2 c2=>?_;have b1:=c2 z Z (by rw[g];exact bZ _);have w4:=c2 b4 e8 (by rw[a6];exact bZ _);simp only[B,RR,seval];have i:=a2 y _ f (by exact(D).nb' f (by decide));have Q:=(i.trans f.symm).trans Q;have f:=i;have C:=a2 F _ d (by exact(D).nb' d (by decide));have d:=C;have t:=a2 z _ g (by exact(D).nb' g (by decide));have g:=t;have b7:=a2 b4 _ a6 (e8 _ _);have a6:=b7;have c5:=g9.cells;have d0:=g9.one1;simp only[c5,d0,cA,List.drop,g,RR,seval];apply I;have H:=H.app2 D (by decide) a2;refine cG ?_;simp only[RR,seval];refine j5 (T.length-mz) _ _ (by omega) ⟨(by(simp only[a3,aT,seval];exact Q)), ?_⟩ (by repeat (first|exact a9|refine bB.upd rfl ?_))
   first
    |(refine⟨j1,k6,vs++j4,U,_,v2, ?_, ?_,j7, ?_, ?_, ?_, ?_,D,g,d⟩;omega;omega;(simp only[aB];omega);omega;exact p;(rw[cO];exact c3))
    |(refine⟨j3,k8,vs,U++[⟨h5.text,IntKind.wrap .i64 h6.num⟩],v1,_, ?_, ?_,j8, ?_, ?_, ?_,H.off k0 _, ?_,bC _ _ _, ?_⟩;omega;omega;omega;(simp only[aB,aM,aU];omega);exact p;(rw[cO];exact g9.off b1 _);(simp only[d,a8,aT,seval];done))
  have p:=rO d9 p;rw[aJ (dK.1 d9)]at d;refine aL ?_;simp only[RR];refine cG ?_;simp only[RR,seval];refine bQ fun r6 m4 o j=>?_;have J:=o 0;have L:=o 2;have N:=o 3;have i:=j y;have C:=j F;have t:=j z;simp only[u,A,B,f,d,g,RR,seval]at J L N i C t;have H:=H.same j;have D:=D.same j;have u:=J;have A:=L;have B:=N;have f:=i;have d:=C;have g:=t;rw[O8]at p;have X:m4 z=some (.rows 3 [[]++v1::[v2, .nsl]]):=g;refine iG H X (fun x l=>by cases l) (fun x l=>by simp only[bL,bN,dH]at l;rcases l with rfl|rfl;exact P5 H D (by decide);exact bU rfl) Z fun m0 d7 P Y R=>?_;have u:=(P 0 (by rw[u];exact bU rfl)).trans u;have A:=(P 2 (by rw[A];exact bU rfl)).trans A;have B:=(P 3 (by rw[B];exact bU rfl)).trans B;have d:=R F _ _ a8 (H.offsz d (by decide)) (fun r O x l=>by simp only[bE]at O;subst O;simp only[bL,bN,dH]at l;rcases l with rfl|rfl|rfl<;>exact bU rfl) d;have f:=R y _ _ a3 (H.offsz f (by decide)) (fun r O x l=>by simp only[bE]at O;subst O;simp only[bL,bN,dH]at l;rcases l with rfl|rfl|rfl<;>exact bU rfl) f;have D:=D.thru H (by decide) g (by decide) (Yg _) R;have g:d7 z=some (.rows 3 [[.isl 1 (vs.map bM),v2, .nsl]]):=Y;clear Y X P R;have X:d7 z=some (.rows 3 [[.isl 1 (vs.map bM)]++v2::[.nsl]]):=g;refine iG D X (fun x l=>by simp only[bL,bN,dH]at l;rcases l with rfl;exact bU rfl) (fun x l=>by simp only[bL,bN,dH]at l;rcases l with rfl;exact bU rfl) g8 fun m1 h2 P Y R=>?_;have u:=(P 0 (by rw[u];exact bU rfl)).trans u;have A:=(P 2 (by rw[A];exact bU rfl)).trans A;have B:=(P 3 (by rw[B];exact bU rfl)).trans B;have d:=R F _ _ a8 (D.offsz d (by decide)) (fun r O x l=>by simp only[bE]at O;subst O;simp only[bL,bN,dH]at l;rcases l with rfl|rfl|rfl<;>exact bU rfl) d;have f:=R y _ _ a3 (D.offsz f (by decide)) (fun r O x l=>by simp only[bE]at O;subst O;simp only[bL,bN,dH]at l;rcases l with rfl|rfl|rfl<;>exact bU rfl) f;have g:h2 z=some (.rows 3 [[.isl 1 (vs.map bM), .isl 2 (U.map Ar.row), .nsl]]):=Y;clear Y X P R;have Z:Al.off AV.nsl z:=fun _ _ h=>by cases h
  refine aA fun K I=>?_;simp only[u,RR,seval];refine dS (fM F hT m V hm zN (by decide)) d trivial fun n5 e9 f7 s9 i1 o4 i5 i6 e4=>?_;have p:=dA p i1;have i:=e4 y _ a4 f;have t:=e4 z _ a5 g;have f:=i;have g:=t;have d:=i6;simp only[RR,seval];refine I _ _ (bQ fun r7 m5 o j=>?_);have J:=o 0;have L:=o 2;have N:=o 3;have i:=j y;have C:=j F;have t:=j z;simp only[u,A,B,f,d,g,RR,seval]at J L N i C t;have u:=J;have A:=L;have B:=N;have f:=i;have d:=C;have g:=t;refine aQ (iQ [0,2,3] (Np T e9 f7) (fun k fr M=>M y=m5 y∧(∃(m:Nat) (V:Bool) (W:List Fu) (v:AV),k=Np T m V∧n≤m∧m≤T.length∧W.length≤m+1∧(V=false→W.length≤m)∧kV V m (Dz T vs U W m)=c1∧eB 5 v (W.map Fu.row) M∧M z=some (.rows 3 [[.isl 1 (vs.map bM), .isl 2 (U.map Ar.row),v]])∧M F=some (.rows 3 [[.isl 4 (T.map fX.row), .int .i64 (m:Nat), .bool V]]))) ⟨rfl,e9,f7,[], .nsl,rfl,by omega,i5,cK _,fun _=>cK _,p, .inl ⟨rfl,rfl⟩,g,d⟩ ?_);rintro k d5 t0 ⟨i,m,V,W,v3,rfl,j9,hm,h8,h9,p,E,g,d⟩ a7 K2 h7;have u:=(a7 0 rfl).trans u;have A:=(a7 2 rfl).trans A;have B:=(a7 3 rfl).trans B;have f:=i.trans f;have a0:=bB.refl [0,2,3] d5;have S:=i;clear a7;have Z:=E.offsz g (by decide);have q3:=E.one1;have n7:=E.cells;refine aQ (aI (aA fun K I=>?_));simp only[u,d,RR,seval];refine I _ _ (aV ?_ ?_)<;>intro c4
  ·have p:kV V m (PR.ok (⟨vs,U,W⟩:Pg) m)=c1:=by rw[c4]at p⊢;exact p
   obtain⟨n2,c9⟩: ∃n2:Nat,n2=m:=⟨_,rfl⟩;rw[←c9]at p d;have c8:n≤n2:=by omega
   have c0:n2≤T.length:=by omega
   refine bQ fun l2 m6 o j=>?_;have J:=o 0;have L:=o 2;have N:=o 3;have i:=j y;have C:=j F;have t:=j z;simp only[u,A,B,f,d,g,RR,seval]at J L N i C t;have a0:bB [0,2,3] d5 l2:=bB.same o (by repeat (first|exact a0|refine bB.upd rfl ?_));have S:=(j y).trans S;have E:=E.same j;have u:=J;have A:=L;have B:=N;have f:=i;have d:=C;have g:=t;have X:m6 z=some (.rows 3 [[.isl 1 (vs.map bM), .isl 2 (U.map Ar.row)]++v3::[]]):=g;refine iG E X (fun x l=>by simp only[bL,bN,dH]at l;rcases l with rfl|rfl<;>exact bU rfl) (fun x l=>by cases l) Z fun m2 h3 P Y R=>?_;have A:=(P 2 (by rw[A];exact bU rfl)).trans A;have B:=(P 3 (by rw[B];exact bU rfl)).trans B;have d:=R F _ _ a8 (E.offsz d (by decide)) (fun r O x l=>by simp only[bE]at O;subst O;simp only[bL,bN,dH]at l;rcases l with rfl|rfl|rfl<;>exact bU rfl) d;have f:=R y _ _ a3 (E.offsz f (by decide)) (fun r O x l=>by simp only[bE]at O;subst O;simp only[bL,bN,dH]at l;rcases l with rfl|rfl|rfl<;>exact bU rfl) f;have g:h3 z=some (.rows 3 [[.isl 1 (vs.map bM), .isl 2 (U.map Ar.row), .isl 5 (W.map Fu.row)]]):=Y;clear Y X P R;refine aA fun K I=>?_;simp only[*,RR,seval];apply I;refine aP ?_;simp only[aY,aK,bR,A,RR,seval];refine iO (by(simp only[d,d4,aT,seval];done)) p ?_ c8 c0;exact jC.refl _
  unfold Dz at p;have h8:=h9 c4;refine aL ?_;simp only[RR];refine bQ fun l3 t1 o j=>?_;have J:=o 0;have L:=o 2;have N:=o 3;have i:=j y;have C:=j F;have t:=j z;simp only[u,A,B,f,d,g,RR,seval]at J L N i C t;have a0:bB [0,2,3] d5 l3:=bB.same o (by repeat (first|exact a0|refine bB.upd rfl ?_));have S:=(j y).trans S;have E:=E.same j;have u:=J;have A:=L;have B:=N;have f:=i;have d:=C;have g:=t;refine aC fun K I=>?_;refine bA (fun x=>x≠z∧x≠y) [(0,3),(1,0),(2,3),(3,1),(4,2),(5,1),(6,3)] [(7,1)] eE (by kernel_rfl) rfl rfl ?_;simp only[*,dL,fW,RR,seval];refine dS (Xx F hT m V hm) d (by trivial) fun b6 a1 b0 t2 i2 o5 e5 i7 c6=>?_;have p:=dA p i2;have i:=c6 y _ a4 f;have S:=(i.trans f.symm).trans S;have t:=c6 z _ a5 g;have f:=i;have g:=t;have E:=eB.kp E d (by decide) c6;have d:=i7;simp only[WU,RR,seval];refine iZ E (by simp only[aG,aM,aU];omega) (fun b e=>by(repeat' apply And.intro)<;>(intro c;subst c;first|exact Z _ _ e|exact E.nb' f (by decide) e)) fun f6 t3 d1 a2 c2=>?_;have b1:=c2 z Z (by rw[g];exact bZ _);simp only[B,RR,seval];have i:=a2 y _ f (by exact(E).nb' f (by decide));have S:=(i.trans f.symm).trans S;have f:=i;have C:=a2 F _ d (by exact(E).nb' d (by decide));have d:=C;have t:=a2 z _ g (by exact(E).nb' g (by decide));have g:=t;have c5:=d1.cells;have d0:=d1.one1;simp only[c5,d0,cA,List.drop,g,RR,seval];refine I _ _ (aI (bQ fun l4 m7 o j=>?_));have J:=o 0;have L:=o 2;have N:=o 3;have i:=j y;have C:=j F;have g:=j z;simp only[u,A,B,f,d,a8,a3,RR,seval]at J L N i C g;have a0:bB [0,2,3] d5 l4:=bB.same o (by repeat (first|exact a0|refine bB.upd rfl ?_));have S:=(j y).trans (by(simp only[a3,aT,seval];exact S));have E:eB 5 f6 ((W++[b6]).map Fu.row) m7:=by rw[cO];exact(d1.off b1 _).same j
  have Z:=b1;have u:=J;have A:=L;have B:=N;have f:=i;have d:=C;refine aC fun K I=>?_;refine bA (fun x=>x≠y∧x≠F∧x≠z) [(0,3),(1,3),(2,3),(3,1),(4,3),(5,3),(6,3),(7,3),(8,1),(9,3),(10,3),(11,3),(12,1),(13,3),(14,3),(15,3)] [] eE (by kernel_rfl) rfl rfl ?_;simp only[dL,u,d,RR,seval]
  repeat' ((refine cT (fun h=>?_) (fun h=>?_))<;>simp only[h,u,d,aG,RR,seval])
  all_goals
   refine I _ _ (aV ?_ ?_)<;>intro b8
   ·try (cases b8;done)
    all_goals
     have hq:b0=true∨ ¬a1<T.length:=by first|exact .inl h|exact .inr (by have:=aD b8;omega)
     have p:kV b0 a1 (PR.ok (⟨vs,U,W++[b6]⟩:Pg) a1)=c1:=by
      rcases hq with e|e
      ·rw[e]at p⊢;exact p
      rw[Iw,aJ e,PR.bind_ok]at p;exact p
     obtain⟨n2,c9⟩: ∃n2:Nat,n2=a1:=⟨_,rfl⟩;rw[←c9]at p d;have c8:n≤n2:=by omega
     have c0:n2≤T.length:=by omega
     refine bQ fun l5 m8 o j=>?_;have J:=o 0;have L:=o 2;have N:=o 3;have i:=j y;have C:=j F;have t:=j z;simp only[u,A,B,f,d,g,RR,seval]at J L N i C t;have a0:bB [0,2,3] d5 l5:=bB.same o (by repeat (first|exact a0|refine bB.upd rfl ?_));have S:=(j y).trans S;have E:=E.same j;have u:=J;have A:=L;have B:=N;have f:=i;have d:=C;have g:=t;have X:m8 z=some (.rows 3 [[.isl 1 (vs.map bM), .isl 2 (U.map Ar.row)]++f6::[]]):=g;refine iG E X (fun x l=>by simp only[bL,bN,dH]at l;rcases l with rfl|rfl<;>exact bU rfl) (fun x l=>by cases l) Z fun m3 h4 P Y R=>?_;have A:=(P 2 (by rw[A];exact bU rfl)).trans A;have B:=(P 3 (by rw[B];exact bU rfl)).trans B;have d:=R F _ _ a8 (E.offsz d (by decide)) (fun r O x l=>by simp only[bE]at O;subst O;simp only[bL,bN,dH]at l;rcases l with rfl|rfl|rfl<;>exact bU rfl) d;have f:=R y _ _ a3 (E.offsz f (by decide)) (fun r O x l=>by simp only[bE]at O;subst O;simp only[bL,bN,dH]at l;rcases l with rfl|rfl|rfl<;>exact bU rfl) f;have g:h4 z=some (.rows 3 [[.isl 1 (vs.map bM), .isl 2 (U.map Ar.row), .isl 5 ((W++[b6]).map Fu.row)]]):=Y;clear Y X P R;refine aA fun K I=>?_;simp only[*,RR,seval];apply I;refine aP ?_;simp only[aY,aK,bR,A,RR,seval];refine iO (by(simp only[d,d4,aT,seval];done)) p ?_ c8 c0;exact jC.refl _
   try (cases b8;done)
   all_goals
    have b5:b0=false:=by simpa using h
    have i4:a1<T.length:=by have:=aE b8;omega
    rw[JD T vs U _ a1 i4]at p;refine aL ?_;simp only[RR];refine aH ?_;simp only[u,RR,seval];refine dS (fM F hT a1 b0 e5 zN (by decide)) d trivial fun n6 d2 d3 t4 b9 i3 e6 i8 c7=>?_;have p:=dA p b9;have i:=c7 y _ a4 f;have S:=(i.trans f.symm).trans S;have t:=c7 z _ a5 g;have f:=i;have g:=t;have E:=eB.kp E d (by decide) c7;have d:=i8;simp only[RR,seval];have p1:=Tc b5 e5 e6 i3 b9 fun a m' h=>by have:=fD h (by decide);omega
    have p2:Np T a1 b0≤Np T m V:=by rw[b5,c4];unfold Np;simp;omega
    have i0:d3=false→a1<d2:=fun e=>by
     rw[e,b5,nL,nL]at b9;have:=fD b9.symm (by decide);omega
    refine h7 (Np T d2 d3) _ _ (by omega) ⟨S,d2,d3,W++[b6],_,rfl,by omega,e6,by simp only[aB,aM,aU];omega,fun e=>by have:=i0 e;simp only[aB,aM,aU];omega,p,E,g,d⟩ (by repeat (first|exact a0|refine bB.upd rfl ?_))
 have j0:=hc;have b5:V=true:=by simpa using j0
 have p:kV V m (Pn T (vs,U) m)=c1:=by subst b5;exact p
 clear b5 j0;refine cG ?_;simp only[RR,seval];refine bQ fun r8 m9 o j=>?_;have J:=o 0;have L:=o 2;have N:=o 3;have i:=j y;have C:=j F;have t:=j z;simp only[u,A,B,f,d,g,RR,seval]at J L N i C t;have H:=H.same j;have D:=D.same j;have u:=J;have A:=L;have B:=N;have f:=i;have d:=C;have g:=t;rw[O8]at p;have X:m9 z=some (.rows 3 [[]++v1::[v2, .nsl]]):=g;refine iG H X (fun x l=>by cases l) (fun x l=>by simp only[bL,bN,dH]at l;rcases l with rfl|rfl;exact P5 H D (by decide);exact bU rfl) Z fun m0 d7 P Y R=>?_;have u:=(P 0 (by rw[u];exact bU rfl)).trans u;have A:=(P 2 (by rw[A];exact bU rfl)).trans A;have B:=(P 3 (by rw[B];exact bU rfl)).trans B;have d:=R F _ _ a8 (H.offsz d (by decide)) (fun r O x l=>by simp only[bE]at O;subst O;simp only[bL,bN,dH]at l;rcases l with rfl|rfl|rfl<;>exact bU rfl) d;have f:=R y _ _ a3 (H.offsz f (by decide)) (fun r O x l=>by simp only[bE]at O;subst O;simp only[bL,bN,dH]at l;rcases l with rfl|rfl|rfl<;>exact bU rfl) f;have D:=D.thru H (by decide) g (by decide) (Yg _) R;have g:d7 z=some (.rows 3 [[.isl 1 (vs.map bM),v2, .nsl]]):=Y;clear Y X P R;have X:d7 z=some (.rows 3 [[.isl 1 (vs.map bM)]++v2::[.nsl]]):=g;refine iG D X (fun x l=>by simp only[bL,bN,dH]at l;rcases l with rfl;exact bU rfl) (fun x l=>by simp only[bL,bN,dH]at l;rcases l with rfl;exact bU rfl) g8 fun m1 h2 P Y R=>?_;have u:=(P 0 (by rw[u];exact bU rfl)).trans u;have A:=(P 2 (by rw[A];exact bU rfl)).trans A;have B:=(P 3 (by rw[B];exact bU rfl)).trans B;have d:=R F _ _ a8 (D.offsz d (by decide)) (fun r O x l=>by simp only[bE]at O;subst O;simp only[bL,bN,dH]at l;rcases l with rfl|rfl|rfl<;>exact bU rfl) d;have f:=R y _ _ a3 (D.offsz f (by decide)) (fun r O x l=>by simp only[bE]at O;subst O;simp only[bL,bN,dH]at l;rcases l with rfl|rfl|rfl<;>exact bU rfl) f;have g:h2 z=some (.rows 3 [[.isl 1 (vs.map bM), .isl 2 (U.map Ar.row), .nsl]]):=Y;clear Y X P R;have Z:Al.off AV.nsl z:=fun _ _ h=>by cases h
 refine aA fun K I=>?_;simp only[u,RR,seval];refine dS (fM F hT m V hm zN (by decide)) d trivial fun n5 e9 f7 t5 i1 o4 i5 i6 e4=>?_;have p:=dA p i1;have i:=e4 y _ a4 f;have t:=e4 z _ a5 g;have f:=i;have g:=t;have d:=i6;simp only[RR,seval];refine I _ _ (bQ fun r9 n0 o j=>?_);have J:=o 0;have L:=o 2;have N:=o 3;have i:=j y;have C:=j F;have t:=j z;simp only[u,A,B,f,d,g,RR,seval]at J L N i C t;have u:=J;have A:=L;have B:=N;have f:=i;have d:=C;have g:=t;refine aQ (iQ [0,2,3] (Np T e9 f7) (fun k fr M=>M y=n0 y∧(∃(m:Nat) (V:Bool) (W:List Fu) (v:AV),k=Np T m V∧n≤m∧m≤T.length∧W.length≤m+1∧(V=false→W.length≤m)∧kV V m (Dz T vs U W m)=c1∧eB 5 v (W.map Fu.row) M∧M z=some (.rows 3 [[.isl 1 (vs.map bM), .isl 2 (U.map Ar.row),v]])∧M F=some (.rows 3 [[.isl 4 (T.map fX.row), .int .i64 (m:Nat), .bool V]]))) ⟨rfl,e9,f7,[], .nsl,rfl,by omega,i5,cK _,fun _=>cK _,p, .inl ⟨rfl,rfl⟩,g,d⟩ ?_);rintro k d6 t6 ⟨i,m,V,W,v3,rfl,j9,hm,h8,h9,p,E,g,d⟩ a7 K2 h7;have u:=(a7 0 rfl).trans u;have A:=(a7 2 rfl).trans A;have B:=(a7 3 rfl).trans B;have f:=i.trans f;have a0:=bB.refl [0,2,3] d6;have S:=i;clear a7;have Z:=E.offsz g (by decide);have q3:=E.one1;have n7:=E.cells;refine aQ (aI (aA fun K I=>?_));simp only[u,d,RR,seval];refine I _ _ (aV ?_ ?_)<;>intro c4
 ·have p:kV V m (PR.ok (⟨vs,U,W⟩:Pg) m)=c1:=by rw[c4]at p⊢;exact p
  obtain⟨n2,c9⟩: ∃n2:Nat,n2=m:=⟨_,rfl⟩;rw[←c9]at p d;have c8:n≤n2:=by omega
  have c0:n2≤T.length:=by omega
  refine bQ fun l6 n1 o j=>?_;have J:=o 0;have L:=o 2;have N:=o 3;have i:=j y;have C:=j F;have t:=j z;simp only[u,A,B,f,d,g,RR,seval]at J L N i C t;have a0:bB [0,2,3] d6 l6:=bB.same o (by repeat (first|exact a0|refine bB.upd rfl ?_));have S:=(j y).trans S;have E:=E.same j;have u:=J;have A:=L;have B:=N;have f:=i;have d:=C;have g:=t;have X:n1 z=some (.rows 3 [[.isl 1 (vs.map bM), .isl 2 (U.map Ar.row)]++v3::[]]):=g;refine iG E X (fun x l=>by simp only[bL,bN,dH]at l;rcases l with rfl|rfl<;>exact bU rfl) (fun x l=>by cases l) Z fun m2 h3 P Y R=>?_;have A:=(P 2 (by rw[A];exact bU rfl)).trans A;have B:=(P 3 (by rw[B];exact bU rfl)).trans B;have d:=R F _ _ a8 (E.offsz d (by decide)) (fun r O x l=>by simp only[bE]at O;subst O;simp only[bL,bN,dH]at l;rcases l with rfl|rfl|rfl<;>exact bU rfl) d;have f:=R y _ _ a3 (E.offsz f (by decide)) (fun r O x l=>by simp only[bE]at O;subst O;simp only[bL,bN,dH]at l;rcases l with rfl|rfl|rfl<;>exact bU rfl) f;have g:h3 z=some (.rows 3 [[.isl 1 (vs.map bM), .isl 2 (U.map Ar.row), .isl 5 (W.map Fu.row)]]):=Y;clear Y X P R;refine aA fun K I=>?_;simp only[*,RR,seval];apply I;refine aP ?_;simp only[aY,aK,bR,A,RR,seval];refine iO (by(simp only[d,d4,aT,seval];done)) p ?_ c8 c0;exact jC.refl _
 unfold Dz at p;have h8:=h9 c4;refine aL ?_;simp only[RR];refine bQ fun l7 t7 o j=>?_;have J:=o 0;have L:=o 2;have N:=o 3;have i:=j y;have C:=j F;have t:=j z;simp only[u,A,B,f,d,g,RR,seval]at J L N i C t;have a0:bB [0,2,3] d6 l7:=bB.same o (by repeat (first|exact a0|refine bB.upd rfl ?_));have S:=(j y).trans S;have E:=E.same j;have u:=J;have A:=L;have B:=N;have f:=i;have d:=C;have g:=t;refine aC fun K I=>?_;refine bA (fun x=>x≠z∧x≠y) [(0,3),(1,0),(2,3),(3,1),(4,2),(5,1),(6,3)] [(7,1)] eE (by kernel_rfl) rfl rfl ?_;simp only[*,dL,fW,RR,seval];refine dS (Xx F hT m V hm) d (by trivial) fun b6 a1 b0 t8 i2 o5 e5 i7 c6=>?_;have p:=dA p i2;have i:=c6 y _ a4 f;have S:=(i.trans f.symm).trans S;have t:=c6 z _ a5 g;have f:=i;have g:=t;have E:=eB.kp E d (by decide) c6;have d:=i7;simp only[WU,RR,seval];refine iZ E (by simp only[aG,aM,aU];omega) (fun b e=>by(repeat' apply And.intro)<;>(intro c;subst c;first|exact Z _ _ e|exact E.nb' f (by decide) e)) fun f6 t9 d1 a2 c2=>?_;have b1:=c2 z Z (by rw[g];exact bZ _);simp only[B,RR,seval];have i:=a2 y _ f (by exact(E).nb' f (by decide));have S:=(i.trans f.symm).trans S;have f:=i;have C:=a2 F _ d (by exact(E).nb' d (by decide));have d:=C;have t:=a2 z _ g (by exact(E).nb' g (by decide));have g:=t;have c5:=d1.cells;have d0:=d1.one1;simp only[c5,d0,cA,List.drop,g,RR,seval];refine I _ _ (aI (bQ fun l8 n3 o j=>?_));have J:=o 0;have L:=o 2;have N:=o 3;have i:=j y;have C:=j F;have g:=j z;simp only[u,A,B,f,d,a8,a3,RR,seval]at J L N i C g;have a0:bB [0,2,3] d6 l8:=bB.same o (by repeat (first|exact a0|refine bB.upd rfl ?_));have S:=(j y).trans (by(simp only[a3,aT,seval];exact S));have E:eB 5 f6 ((W++[b6]).map Fu.row) n3:=by rw[cO];exact(d1.off b1 _).same j
 have Z:=b1;have u:=J;have A:=L;have B:=N;have f:=i;have d:=C;refine aC fun K I=>?_;refine bA (fun x=>x≠y∧x≠F∧x≠z) [(0,3),(1,3),(2,3),(3,1),(4,3),(5,3),(6,3),(7,3),(8,1),(9,3),(10,3),(11,3),(12,1),(13,3),(14,3),(15,3)] [] eE (by kernel_rfl) rfl rfl ?_;simp only[dL,u,d,RR,seval]
 repeat' ((refine cT (fun h=>?_) (fun h=>?_))<;>simp only[h,u,d,aG,RR,seval])
 all_goals
  refine I _ _ (aV ?_ ?_)<;>intro b8
  ·try (cases b8;done)
   all_goals
    have hq:b0=true∨ ¬a1<T.length:=by first|exact .inl h|exact .inr (by have:=aD b8;omega)
    have p:kV b0 a1 (PR.ok (⟨vs,U,W++[b6]⟩:Pg) a1)=c1:=by
     rcases hq with e|e
     ·rw[e]at p⊢;exact p
     rw[Iw,aJ e,PR.bind_ok]at p;exact p
    obtain⟨n2,c9⟩: ∃n2:Nat,n2=a1:=⟨_,rfl⟩;rw[←c9]at p d;have c8:n≤n2:=by omega
    have c0:n2≤T.length:=by omega
    refine bQ fun l9 n4 o j=>?_;have J:=o 0;have L:=o 2;have N:=o 3;have i:=j y;have C:=j F;have t:=j z;simp only[u,A,B,f,d,g,RR,seval]at J L N i C t;have a0:bB [0,2,3] d6 l9:=bB.same o (by repeat (first|exact a0|refine bB.upd rfl ?_));have S:=(j y).trans S;have E:=E.same j;have u:=J;have A:=L;have B:=N;have f:=i;have d:=C;have g:=t;have X:n4 z=some (.rows 3 [[.isl 1 (vs.map bM), .isl 2 (U.map Ar.row)]++f6::[]]):=g;refine iG E X (fun x l=>by simp only[bL,bN,dH]at l;rcases l with rfl|rfl<;>exact bU rfl) (fun x l=>by cases l) Z fun m3 h4 P Y R=>?_;have A:=(P 2 (by rw[A];exact bU rfl)).trans A;have B:=(P 3 (by rw[B];exact bU rfl)).trans B;have d:=R F _ _ a8 (E.offsz d (by decide)) (fun r O x l=>by simp only[bE]at O;subst O;simp only[bL,bN,dH]at l;rcases l with rfl|rfl|rfl<;>exact bU rfl) d;have f:=R y _ _ a3 (E.offsz f (by decide)) (fun r O x l=>by simp only[bE]at O;subst O;simp only[bL,bN,dH]at l;rcases l with rfl|rfl|rfl<;>exact bU rfl) f;have g:h4 z=some (.rows 3 [[.isl 1 (vs.map bM), .isl 2 (U.map Ar.row), .isl 5 ((W++[b6]).map Fu.row)]]):=Y;clear Y X P R;refine aA fun K I=>?_;simp only[*,RR,seval];apply I;refine aP ?_;simp only[aY,aK,bR,A,RR,seval];refine iO (by(simp only[d,d4,aT,seval];done)) p ?_ c8 c0;exact jC.refl _
  try (cases b8;done)
  all_goals
   have b5:b0=false:=by simpa using h
   have i4:a1<T.length:=by have:=aE b8;omega
   rw[JD T vs U _ a1 i4]at p;refine aL ?_;simp only[RR];refine aH ?_;simp only[u,RR,seval];refine dS (fM F hT a1 b0 e5 zN (by decide)) d trivial fun n6 d2 d3 u1 b9 i3 e6 i8 c7=>?_;have p:=dA p b9;have i:=c7 y _ a4 f;have S:=(i.trans f.symm).trans S;have t:=c7 z _ a5 g;have f:=i;have g:=t;have E:=eB.kp E d (by decide) c7;have d:=i8;simp only[RR,seval];have p1:=Tc b5 e5 e6 i3 b9 fun a m' h=>by have:=fD h (by decide);omega
   have p2:Np T a1 b0≤Np T m V:=by rw[b5,c4];unfold Np;simp;omega
   have i0:d3=false→a1<d2:=fun e=>by
    rw[e,b5,nL,nL]at b9;have:=fD b9.symm (by decide);omega
   refine h7 (Np T d2 d3) _ _ (by omega) ⟨S,d2,d3,W++[b6],_,rfl,by omega,e6,by simp only[aB,aM,aU];omega,fun e=>by have:=i0 e;simp only[aB,aM,aU];omega,p,E,g,d⟩ (by repeat (first|exact a0|refine bB.upd rfl ?_))
theorem G0 (c:Nat) (T:List fX) (n:Nat) (w:Bool) (j:n≤T.length) (s:dD):Oc 66 [.str s] c T n w (.int .i64 (QP T s.length n)) n w:=by
 unfold Oc;have b:=mP c T n w;by_cases f:n<T.length
 ·have d:=aF f
  generalize T[n]=t at d;have g:=NG d;have hd:decide ((n:Int)<(T.length:Int))=true:=cR (by omega);have e:QP T s.length n=(t.pos:Int):=by simp [QP,d]
  rw[e];refine bY 28 [.tmp 4] func66 ?_;refine aA fun K a=>?_;simp only[RR,seval];refine a _ _ (aI (aC fun K a=>?_));refine bA (fun x=>x≠c) [(0,3),(1,3),(2,3),(3,1),(4,3),(5,3),(6,3),(7,1),(8,3),(9,3)] [] eE (by kernel_rfl) rfl rfl ?_;simp only[dL,b,aG,hd,RR,seval];refine a _ _ (aV ?_ ?_)<;>intro i
  ·refine aC fun K a=>?_
   refine bA (fun x=>x≠c) [(0,3),(1,3),(2,3),(3,1),(4,3),(5,3),(6,3),(7,1),(8,3),(9,3),(10,1),(11,3)] [] eE (by kernel_rfl) rfl rfl ?_;simp only[dL,b,g,RR,seval];apply a;refine aP ?_;simp only[aY,aK,bR,RR,seval];refine oK b ?_;rfl
  refine aL ?_;try simp only[RR]
  refine aA fun K a=>?_;simp only[RR,seval];apply a;refine aP ?_;simp only[aY,aK,bR,RR,seval];refine oK b ?_;simp_all
 have hd:decide ((n:Int)<(T.length:Int))=false:=bG (by omega);have e:QP T s.length n=(s.length:Int):=by simp [QP,dT (Nat.le_of_not_lt f)]
 rw[e];refine bY 28 [.tmp 4] func66 ?_;refine aA fun K a=>?_;simp only[RR,seval];refine a _ _ (aI (aC fun K a=>?_));refine bA (fun x=>x≠c) [(0,3),(1,3),(2,3),(3,1),(4,3),(5,3),(6,3),(7,1),(8,3),(9,3)] [] eE (by kernel_rfl) rfl rfl ?_;simp only[dL,b,aG,hd,RR,seval];refine a _ _ (bI ?_);refine aL ?_;simp only[RR];refine aA fun K a=>?_;simp only[RR,seval];apply a;refine aP ?_;simp only[aY,aK,bR,RR,seval];refine oK b ?_;rfl
theorem Pj (s:dD) (L:s.length≤1000000):eH dP 38 [.str s] (D6 (D2 s)):=by
 generalize b:D2 s=Z;unfold D2 at b;have y:Al.jC (.agg [.nsl, .nsl, .nsl]) RN.av:=jC.agg MF
 cases hl:Cb s with
 |error x=>
  obtain⟨i,e⟩:=x;rw[hl]at b;simp only at b;subst b;have u:=HC L hl;have P:=IH hl;have hd:decide (e=0)=false:=bG P;refine bY 48 [.cell 2 26, .tmp 3, .tmp 4] func38 ?_;refine aA fun K a=>?_;simp only[RR,seval];refine aN fun l U=>?_;simp only[RR,seval];refine a _ _ (aA fun K a=>?_);simp only[RR,seval];refine aO (u) ?_;simp only[RR,seval];refine a _ _ (aI (aA fun K a=>?_));simp only[hd,RR,seval];refine a _ _ (cM (aA fun K a=>?_));simp only[RR,seval];apply a;refine aP ?_;simp only[aY,aK,bR,RR,seval];refine⟨D6 _,pZ,(lT.sub ?_).trans (lT.drop (rP _)),rfl,rfl⟩;exact jC.tup (fN.cons y (fN.refl _))
 |ok T=>
  rw[hl]at b;simp only at b;have u:=MD L hl;have E:=MP hl;refine bY 48 [.cell 2 26, .tmp 3, .tmp 4] func38 ?_;refine aA fun K a=>?_;simp only[RR,seval];refine aN fun l U=>?_;simp only[RR,seval];refine a _ _ (aA fun K a=>?_);simp only[RR,seval];refine aO (u) ?_;simp only[RR,seval];refine a _ _ (aI (aA fun K a=>?_));simp only[RR,seval];refine a _ _ (bI ?_);refine aL ?_;simp only[RR];refine aA fun K a=>?_;simp only[RR,seval];refine aN fun t H=>?_;have X:t≠l:=fun e=>by rw[e]at H;simp only[RR,seval,reduceCtorEq]at H
  have A:=X.symm;simp only[RR,seval];refine a _ _ (aA fun K a=>?_);simp only[RR,seval];refine dS (Z2 t E 0 false (cK _)) (by(simp only[aT,RR,seval];done)) trivial fun p o C M1 c a1 S V R=>?_;rw[nL]at c;have d:=R l _ A (by(simp only[A,aT,seval];rfl));have g:=V;simp only[XZ,RR,seval];refine aN fun N I=>?_;have Y:=cY I d;have B:=Y.symm;have M:=cY I g;have z:=M.symm;simp only[RR,seval];refine a _ _ (aI (aA fun K a=>?_));simp only[g,z,RR,seval]
  repeat' ((refine cT (fun h=>?_) (fun h=>?_))<;>simp only[h,g,z,aG,RR,seval])
  all_goals
   refine a _ _ (aV ?_ ?_)<;>intro n
   ·try (cases n;done)
    all_goals
     have j:Z=(RN,QP T s.length o,3):=by
      cases k:C with
      |true=>rw[k,GL]at c;rw[←c]at b;exact b.symm
      |false=>
       rw[k,nL]at c;rw[←c]at b
       have v:o<T.length:=by
        first
        |(rw[k]at h;cases h;done)
        |(have:=aD n;omega)
       simp only[bD v]at b;exact b.symm
     subst j;refine aA fun K a=>?_;simp only[RR,seval];refine gK (G0 t T o C S s) (by(simp only[g,z,aT,seval];done)) trivial fun M2 W G=>?_;have O:=G l _ A (by(simp only[d,B,aT,seval];rfl));have a0:=G N _ M (bC _ _ _);have d:=O;have g:=W;simp only[d,RR,seval];apply a;refine aP ?_;simp only[aY,aK,bR,RR,seval];refine⟨D6 _,pZ,(lT.sub ?_).trans (lT.drop (rP _)),rfl,rfl⟩;exact jC.tup (fN.cons y (fN.refl _))
   try (cases n;done)
   all_goals
    have k:C=false:=by simpa using h
    have v: ¬o<T.length:=by have:=aE n;omega
    rw[k,nL]at c;rw[←c]at b;simp only[aJ v]at b;have J:=HI E (cK _) c.symm;have D:=BI p J.1 fun f Q=>by have:=(J.2 f Q).1;omega
    rw[Pg.av,Pg.row]at D;refine aL ?_;simp only[RR];refine aI (aA fun K a=>?_);simp only[RR,seval];refine aO (D) ?_;simp only[RR,seval];refine a _ _ (aV ?_ ?_)<;>intro F
    ·have j: ¬gL p=true:=by simpa using F
     rw[aJ j]at b;subst b;refine aA fun K a=>?_;simp only[d,B,RR,seval];apply a;refine aP ?_;simp only[aY,aK,bR,RR,seval];refine⟨D6 _,pZ,(lT.sub ?_).trans (lT.drop (rP _)),rfl,rfl⟩;exact jC.tup (fN.cons y (fN.refl _))
    have j:gL p=true:=by simpa using F
    rw[bD j]at b;subst b;refine aL ?_;simp only[RR];refine aA fun K a=>?_;simp only[d,B,RR,seval];apply a;refine aP ?_;simp only[aY,aK,bR,RR,seval];refine⟨D6 _,pZ,(lT.sub ?_).trans (lT.drop (rP _)),rfl,rfl⟩;exact jC.refl _
def XL (s:dD):Option Pg:=match Cb s with
 | .error _=>none
 | .ok T=>match Ea T 0 with
   | .bad _=>none
   | .ok e m=>if m<T.length then none else some e
theorem O0 {s:dD} {e:Pg} (h:XL s=some e) (a:gL e=true):D2 s=(e,0,0):=by
 unfold XL at h;unfold D2
 cases hl:Cb s with
 |error x=>rw[hl]at h;cases h
 |ok T=>
  rw[hl]at h;simp only at h⊢
  cases hp:Ea T 0 with
  |bad m=>rw[hp]at h;cases h
  |ok x m=>
   rw[hp]at h;simp only at h⊢;by_cases c:m<T.length
   ·rw[bD c]at h;cases h
   rw[aJ c]at h⊢;cases h;rw[bD a]
def qN:Fu:=⟨[109,97,105,110],[],[],false,[.mk 1 [97] [.mk 5 0 0 [] []] [] [], .mk 5 [] [.mk 6 14 0 [] [.mk 2 0 0 [97] [], .mk 1 0 256 [] []]] [.mk 3 [] [.mk 2 0 0 [97] []] [] [], .mk 1 [97] [.mk 5 0 0 [] []] [] []] []]⟩
def iU:Pg:=⟨[[97]],[],[qN]⟩
def JU:dD:=[118,97,114,32,97,59,32,102,117,110,99,32,109,97,105,110,40,41,32,123,32,97,32,61,32,103,101,116,40,41,59,32,119,104,105,108,101,32,40,97,32,60,32,50,53,54,41,32,123,32,112,117,116,40,97,41,59,32,97,32,61,32,103,101,116,40,41,59,32,125,32,125]
theorem O6:gL iU=true:=by
 simp only[gL,lP,iU,qN,dZ,gW,qC,uJ,lO,qD,oN,lN,Ex.kids,Sm.es,Sm.thn,Sm.els]
 decide+kernel
theorem UO:D2 JU=(iU,0,0):=O0 (by kernel_rfl) O6
theorem Je:iU.few:=by
 have b:Br ([]:List Ex):=⟨by simp [fK],by simp⟩;have a:yZ ([]:List Sm):=⟨by simp [fK],by simp⟩;have c: ∀{e:Ex},e.ok→Br [e]:=fun h=>⟨by simp [fK],by simpa using h⟩;have j:(Ex.mk 5 0 0 [] []).ok:= .mk _ _ _ _ _ (by simp [jH]) (by simp [jH]) (by simp [dR]) (by simp [fK]) b.fit b.all;have d:(Ex.mk 2 0 0 [97] []).ok:= .mk _ _ _ _ _ (by simp [jH]) (by simp [jH]) (by simp [dR]) (by simp [fK]) b.fit b.all;have i:(Ex.mk 1 0 256 [] []).ok:= .mk _ _ _ _ _ (by simp [jH]) (by simp [jH]) (by simp [dR]) (by simp [fK]) b.fit b.all;have k:(Ex.mk 6 14 0 [] [.mk 2 0 0 [97] [], .mk 1 0 256 [] []]).ok:= .mk _ _ _ _ _ (by simp [jH]) (by simp [jH]) (by simp [dR]) (by simp [fK]) (by simp [fK]) (by simp [d,i]);have g:(Sm.mk 1 [97] [.mk 5 0 0 [] []] [] []).ok:= .mk _ _ _ _ _ (by simp [jH]) (by simp [fK]) (c j) a.fit a.all a.fit a.all;have m:(Sm.mk 3 [] [.mk 2 0 0 [97] []] [] []).ok:= .mk _ _ _ _ _ (by simp [jH]) (by simp [fK]) (c d) a.fit a.all a.fit a.all;have n:(Sm.mk 5 [] [.mk 6 14 0 [] [.mk 2 0 0 [97] [], .mk 1 0 256 [] []]] [.mk 3 [] [.mk 2 0 0 [97] []] [] [], .mk 1 [97] [.mk 5 0 0 [] []] [] []] []).ok:= .mk _ _ _ _ _ (by simp [jH]) (by simp [fK]) (c k) (by simp [fK]) (by simp [m,g]) a.fit a.all;have l:qN.ok:=⟨by simp [fK,qN],⟨by simp [fK,qN],by simp [qN]⟩,⟨by simp [fK,qN],by simp [qN]⟩,⟨by simp [fK,qN],by simp [qN,g,n]⟩⟩;refine⟨⟨⟨by simp [fK,iU],by simp [fK,iU]⟩,by simp [fK,iU],by simp [iU],by simp [fK,iU],by simpa [iU]using l⟩,by simp [iU],by simp [iU],by simp [iU],fun f h=>?_⟩;simp only[iU,bE]at h;subst h;refine⟨by simp [qN],by simp [qN], ?_⟩;show sS [_,_]≤_;simp [sS,Sm.sz,Fp,Ex.sz]
theorem O1:iW iU=0:=by
 simp only[iW,gL,lP,iU,qN,dZ,gW,qC,uJ,lO,qD,oN,lN,lD,kP,rI,jK,jS,nI,lZ,eG,fG,Ex.kids,Sm.es,Sm.thn,Sm.els]
 decide+kernel
theorem O4:jD (fun l=>l.all Bg) iU=true:=by
 unfold jD;rw[O1];simp only[iU,qN,dZ,gW,Bo,Sm.kind,Sm.es,Sm.thn,Sm.els,Di,Ex.kind,Ex.kids]
 decide+kernel
theorem SQ:Lib.decDigits 256=[50,53,54]:=by simp [Lib.decDigits]
theorem QD:hJ qN.body=[63,58,97,87,97,50,53,54,32,60,68,97,46,63,58,97,69]:=by
 simp [qN,hJ,oW,iJ,fO,iR,SQ,opS]
theorem XE:BR iU=([63,58,97,87,97,50,53,54,32,60,68,97,46,63,58,97,69,36],0):=by
 unfold BR;rw[bD O4];simp only[iU,QD];rfl
def zP:Pg:=⟨[],[],[]⟩
theorem XD:BR zP=([],1):=by
 have :jD (fun l=>l.all Bg) zP=false:=by simp [jD,zP]
 unfold BR;rw[aJ (by rw[this];decide)]
theorem XA:zP.ok:=⟨⟨by simp [fK,zP],by simp [fK,zP]⟩,by simp [fK,zP],by simp [zP],by simp [fK,zP],by simp [zP]⟩
theorem JS:eH dP 27 [] iU.av:=by
 have a:=Pj JU (by decide);rw[UO]at a;have g:iU.av= .agg [.isl 1 (iU.vars.map bM), .isl 2 (iU.arrs.map Ar.row), .isl 5 (iU.funs.map Fu.row)]:=rfl;have h:D6 (iU,0,0)= .tup [iU.av, .int .i64 0, .int .i64 0]:=rfl;rw[h]at a;rw[g]at a⊢;unfold JU at a;generalize iU.vars.map bM=l at *;generalize iU.arrs.map Ar.row=m at *;generalize iU.funs.map Fu.row=n at *;refine bY 10 [.cell 0 26] func27 ?_;refine aA fun K b=>?_;simp only[RR,seval];refine aN fun d k=>?_;simp only[RR,seval];refine b _ _ (aA fun K b=>?_);simp only[RR,seval];refine aO (a) ?_;simp only[RR,seval];refine aN fun f c=>?_;have j:f≠d:=fun e=>by rw[e]at c;simp only[RR,seval,reduceCtorEq]at c
 have i:=j.symm;simp only[RR,seval];refine b _ _ (aA fun K b=>?_);simp only[i,RR,seval];apply b;refine aP ?_;simp only[aY,aK,bR,RR,seval];refine aZ.pure ?_;rfl
def GI:Code→dD
 | .seq c d=>match GI c with
   |[]=>GI d
   |l=>l
 | .region _ #[⟨_, .assign (.const (.string s)),_,_,_,_⟩] _=>s.data.toList
 |_=>[]
noncomputable def Sj:dD:=match Tryz.f22.body with
 |some c=>GI c
 |none=>[]
theorem GM:decide ((0:Int)<(Sj.length:Int))=true:=by decide+kernel
theorem Lc:eH dP 22 [] (.str Sj):=by
 refine bY 1 [.tmp 0] func22 ?_;refine aA fun K a=>?_;simp only[RR,seval];refine a _ _ (aA fun K a=>?_);simp only[RR,seval];apply a;refine aP ?_;simp only[aY,aK,bR,RR,seval];exact aZ.pure (by kernel_rfl)
theorem BA:eH dP 11 [] (.bool true):=by
 have g:=JS;have i:=Pq iU (by rw[O6];exact JO) (fun _=>BO iU Je (by decide)) fun _=>Xl iU Je.ok;have j:=Pq zP NV (fun h=>by cases h) fun h=>by cases h
 rw[O1]at i;rw[show iW zP=7 by simp [iW,gL,zP]]at j;have e:=W2 i j;have c:=Xk iU Je.ok (fun f b _=>by simp only[iU,bE]at b;subst b;rw[QD];decide) (by rw[O4];exact e.1);rw[XE]at c;have d:=Xk zP XA (fun f b=>by cases b) (by rw[show jD (fun l=>l.all Bg) zP=false by simp [jD,zP]];exact e.2);rw[XD]at d;have o:fN [.agg [.nsl, .nsl, .nsl]] [zP.av]:=fN.cons (jC.agg (fN.cons (jC.nsl 1) (fN.cons (jC.nsl 2) (fN.cons (jC.nsl 5) (fN.refl _))))) (fN.refl _);have k:eH dP 14 [iU.av] (.bool true):=e.1;have m:=Lc;have n:=GM;generalize Sj=q at *;generalize iU.av=p at *;generalize zP.av=r at *;simp only at c d;refine bY 34 [.tmp 0] func11 ?_;refine aA fun K a=>?_;simp only[RR,seval];refine a _ _ (aA fun K a=>?_);simp only[RR,seval];refine aO (g) ?_;simp only[RR,seval];refine aO (c) ?_;simp only[RR,seval];refine a _ _ (aA fun K a=>?_);simp only[RR,seval];refine Rf d o ?_;simp only[RR,seval];refine a _ _ (aA fun K a=>?_);simp only[RR,seval];refine aO (g) ?_;simp only[RR,seval];refine aO (k) ?_;simp only[RR,seval];refine aO (m) ?_;simp only[n,RR,seval];apply a;refine aP ?_;simp only[aY,aK,bR,RR,seval];refine aZ.pure ?_;rfl
end Go.Proofs.YtaecpjgmcffliaaGreatDoor
