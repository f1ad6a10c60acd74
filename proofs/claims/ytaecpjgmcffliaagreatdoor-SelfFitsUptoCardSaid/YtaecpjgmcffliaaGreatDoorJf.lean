/- Jf -/
import Derived.Test.YtaecpjgmcffliaaGreatDoorJa
import Derived.Test.YtaecpjgmcffliaaGreatDoorLx
import Derived.Test.YtaecpjgmcffliaaGreatDoorWb
import Derived.Test.YtaecpjgmcffliaaGreatDoorAl3
set_option linter.unusedSimpArgs false
set_option linter.unusedVariables false
set_option maxHeartbeats 8000000
set_option maxRecDepth 100000
namespace Go.Al
theorem dW.offnone {sz:Nat} {v:AV} {rows:List (List AV)} {H:Hp} {b:Nat} (h:dW sz v rows H) (d:H b=none):Al.off v b:=fun s n e=>by
 rcases h with⟨rfl,_⟩|⟨c,rfl,a⟩
 ·cases e
 cases e;rw[d]at a;cases a
def eX (op a b:Int):Int×Int:=
 if op=4 then(IntKind.wrap .u32 (a+b),0)
 else if op=5 then(IntKind.wrap .u32 (a-b),0)
 else if op=6 then(IntKind.wrap .u32 (a *b),0)
 else if op=7 then(if b=0 then(0,14)else(IntKind.wrap .u32 (a.tdiv b),0))
 else if op=8 then(if b=0 then(0,14)else(a.tmod b,0))
 else if op=9 then(IntKind.wrap .u32 (BitVec.ofInt 32 a&&&BitVec.ofInt 32 b).toNat,0)
 else if op=10 then(IntKind.wrap .u32 (BitVec.ofInt 32 a|||BitVec.ofInt 32 b).toNat,0)
 else if op=11 then(IntKind.wrap .u32 (BitVec.ofInt 32 a^^^BitVec.ofInt 32 b).toNat,0)
 else if op=12 then(if 31<b then(0,0)else(IntKind.wrap .u32 (a *2^(min b.toNat 32)),0))
 else if op=13 then(if 31<b then(0,0)else(a.fdiv (2^(min b.toNat 32)),0))
 else if op=14 then((if a<b then 1 else 0),0)
 else if op=15 then((if a=b then 1 else 0),0)
 else(0,1)
structure RS where
 vars:List Int
 arrs:List (List Int)
 read:Nat
 out:List UInt8
 ticks:Nat
inductive Rz (α:Type) where
 |val (a:α) (s:RS)
 |fin (e:Int) (s:RS)
def Rz.st {α:Type}:Rz α→RS| .val _ s=>s| .fin _ s=>s
structure Cf where
 words:Nat
 res:dC→Bool×Int
 body:List Sm
structure Cx where
 funs:List Cf
 inp:dC
 fuel:Nat
def bindR {α β:Type} (x:Option (Rz α)) (f:α→RS→Option (Rz β)):Option (Rz β):=match x with
 |none=>none
 |some (.val a s)=>f a s
 |some (.fin e s)=>some (.fin e s)
def nF (cx:Cx) (s:RS):Rz Unit:=if cx.fuel≤s.ticks then .fin 5 s else .val () {s with ticks:=s.ticks+1}
def zH (cx:Cx) (s:RS):Rz Int:=match cx.inp[s.read]? with
 |some c=> .val c.toNat {s with read:=s.read+1}
 |none=> .val 256 s
def Le (v:Int) (s:RS):Rz Unit:=if 65536≤s.out.length then .fin 4 s else .val () {s with out:=s.out++[UInt8.ofNat (IntKind.wrap .u8 v).toNat]}
def Z2 (i at':Int) (s:RS):Option (Rz Nat):=match s.arrs[i.toNat]? with
 |none=>none
 |some l=>if at'.toNat<l.length then some (.val at'.toNat s)else some (.fin 3 s)
def Zn (i:Int) (j:Nat) (v:Int) (s:RS):RS:={s with arrs:=s.arrs.modify i.toNat fun l=>l.set j v}
def Vf (p:Bool×Int) (v:Int) (ow:List Int) (s:RS):Option (List Int×RS):=
 if 0≤p.2 then(if p.1 then(if p.2.toNat<ow.length then some (ow.set p.2.toNat v,s)else none)else if p.2.toNat<s.vars.length then some (ow,{s with vars:=s.vars.set p.2.toNat v})else none)else none
def Vx (p:Bool×Int) (ow:List Int) (s:RS):Option Int:=if 0≤p.2 then(if p.1 then ow[p.2.toNat]? else s.vars[p.2.toNat]?)else none
mutual
def nH (cx:Cx):Nat→(dC→Bool×Int)→List Int→Ex→RS→Option (Rz Int)
 |0,_,_,_,_=>none
 |n+1,rs,ow, .mk k o m s l,st=>
  if k=1 then some (.val m st)
  else if k=2 then(Vx (rs s) ow st).map fun v=> .val v st
  else if k=3 then match l[0]? with
   |none=>none
   |some a=>bindR (nH cx n rs ow a st) fun at' st=>if 0≤(rs s).2 then bindR (Z2 (rs s).2 at' st) fun j st=>((st.arrs[(rs s).2.toNat]?).bind fun l=>l[j]?).map fun v=> .val v st else none
  else if k=4 then Rr cx n rs ow (rs s).2 l st
  else if k=5 then some (zH cx st)
  else match l[0]? with
   |none=>none
   |some a=>
    if k=7 then bindR (nH cx n rs ow a st) fun x st=>some (.val (if x=0 then 1 else 0) st)
    else match l[1]? with
    |none=>none
    |some b=>
     if k=6 then bindR (nH cx n rs ow a st) fun x st=>bindR (nH cx n rs ow b st) fun y st=>if(eX o x y).2=0 then some (.val (eX o x y).1 st)else some (.fin 2 st)
     else bindR (nH cx n rs ow a st) fun x st=>if decide (x=0)=decide (k=8)then some (.val x st)else nH cx n rs ow b st
def Dn (cx:Cx):Nat→(dC→Bool×Int)→List Int→List Ex→RS→Option (Rz (List Int))
 |0,_,_,_,_=>none
 |_+1,_,_,[],st=>some (.val [] st)
 |n+1,rs,ow,e::l,st=>bindR (nH cx n rs ow e st) fun v st=>bindR (Dn cx n rs ow l st) fun vs st=>some (.val (v::vs) st)
def Rr (cx:Cx):Nat→(dC→Bool×Int)→List Int→Int→List Ex→RS→Option (Rz Int)
 |0,_,_,_,_,_=>none
 |n+1,rs,ow,i,l,st=>if i<0 then none else match cx.funs[i.toNat]? with
  |none=>none
  |some f=>if f.words<l.length then none else bindR (Dn cx n rs ow l st) fun vs st=>bindR (some (nF cx st)) fun _ st=>
   bindR (oS cx n f.res (vs++List.replicate (f.words-l.length) 0) f.body st) fun r st=>some (.val (r.1.getD 0) st)
def rA (cx:Cx):Nat→(dC→Bool×Int)→List Int→Sm→RS→Option (Rz (Option Int×List Int))
 |0,_,_,_,_=>none
 |n+1,rs,ow, .mk k s l t u,st=>
  if k=1 then match l[0]? with
   |none=>none
   |some a=>bindR (nH cx n rs ow a st) fun v st=>(Vf (rs s) v ow st).map fun p=> .val (none,p.1) p.2
  else if k=2 then match l[0]?,l[1]? with
   |some a,some b=>bindR (nH cx n rs ow a st) fun x st=>bindR (nH cx n rs ow b st) fun v st=>if 0≤(rs s).2 then bindR (Z2 (rs s).2 x st) fun j st=>some (.val (none,ow) (Zn (rs s).2 j v st))else none
   |_,_=>none
  else if k=3 then match l[0]? with
   |none=>none
   |some a=>bindR (nH cx n rs ow a st) fun v st=>bindR (some (Le v st)) fun _ st=>some (.val (none,ow) st)
  else if k=4 then match l[0]? with
   |none=>none
   |some a=>bindR (nH cx n rs ow a st) fun v st=>if v=0 then oS cx n rs ow u st else oS cx n rs ow t st
  else if k=5 then match l[0]? with
   |none=>none
   |some a=>Af cx n rs ow a t st
  else if k=6 then bindR (Rr cx n rs ow (rs s).2 l st) fun _ st=>some (.val (none,ow) st)
  else if k=7 then match l[0]? with
   |none=>some (.val (some 0,ow) st)
   |some a=>bindR (nH cx n rs ow a st) fun v st=>some (.val (some v,ow) st)
  else some (.val (none,ow) st)
def oS (cx:Cx):Nat→(dC→Bool×Int)→List Int→List Sm→RS→Option (Rz (Option Int×List Int))
 |0,_,_,_,_=>none
 |_+1,_,ow,[],st=>some (.val (none,ow) st)
 |n+1,rs,ow,s::l,st=>bindR (rA cx n rs ow s st) fun r st=>match r.1 with
  |some v=>some (.val (some v,r.2) st)
  |none=>oS cx n rs r.2 l st
def Af (cx:Cx):Nat→(dC→Bool×Int)→List Int→Ex→List Sm→RS→Option (Rz (Option Int×List Int))
 |0,_,_,_,_,_=>none
 |n+1,rs,ow,c,t,st=>bindR (some (nF cx st)) fun _ st=>bindR (nH cx n rs ow c st) fun x st=>if x=0 then some (.val (none,ow) st)else
  bindR (oS cx n rs ow t st) fun r st=>match r.1 with
  |some v=>some (.val (some v,r.2) st)
  |none=>Af cx n rs r.2 c t st
end
def jJ {α:Type} (x y:Option α):Prop:= ∀o,x=some o→y=some o
theorem jJ.refl {a:Type} (x:Option a):jJ x x:=fun _ h=>h
theorem jJ.none {a:Type} (y:Option a):jJ none y:=fun _ h=>by cases h
theorem jJ.bindR {c d:Type} {x y:Option (Rz c)} {f g:c→RS→Option (Rz d)} (h:jJ x y) (hf: ∀a s,jJ (f a s) (g a s)):jJ (bindR x f) (bindR y g):=fun o b=>by
 cases x with
 |none=>cases b
 |some r=>
  have:=h r rfl;subst this
  cases r with
  |val a s=>exact hf a s o b
  |fin e s=>exact b
theorem jJ.ite {e:Type} {c:Prop} [Decidable c] {x y a b:Option e} (h:jJ x a) (d:jJ y b):jJ (if c then x else y) (if c then a else b):=by
 split
 ·exact h
 exact d
structure Deep (cx:Cx) (n:Nat):Prop where
 E: ∀rs ow e st,jJ (nH cx n rs ow e st) (nH cx (n+1) rs ow e st)
 A: ∀rs ow l st,jJ (Dn cx n rs ow l st) (Dn cx (n+1) rs ow l st)
 C: ∀rs ow i l st,jJ (Rr cx n rs ow i l st) (Rr cx (n+1) rs ow i l st)
 S: ∀rs ow e st,jJ (rA cx n rs ow e st) (rA cx (n+1) rs ow e st)
 L: ∀rs ow l st,jJ (oS cx n rs ow l st) (oS cx (n+1) rs ow l st)
 W: ∀rs ow c t st,jJ (Af cx n rs ow c t st) (Af cx (n+1) rs ow c t st)
theorem D5 (cx:Cx) (n:Nat):Deep cx n:=by
 induction n with
 |zero=>
  constructor
  all_goals
   intros
   intro o h;simp [nH,Dn,Rr,rA,oS,Af]at h
 |succ n ih=>
  obtain⟨d,z,A,C,g,B⟩:=ih;constructor
  ·rintro y p ⟨k,o,m,s,l⟩ st
   simp only[nH];refine jJ.ite (jJ.refl _) (jJ.ite (jJ.refl _) (jJ.ite ?_ (jJ.ite (A _ _ _ _ _) (jJ.ite (jJ.refl _) ?_))))
   ·cases l[0]? with
    |none=>exact jJ.refl _
    |some a=>exact jJ.bindR (d _ _ _ _) fun _ _=>jJ.refl _
   cases l[0]? with
   |none=>exact jJ.refl _
   |some a=>
    refine jJ.ite (jJ.bindR (d _ _ _ _) fun _ _=>jJ.refl _) ?_
    cases l[1]? with
    |none=>exact jJ.refl _
    |some b=>
     refine jJ.ite (jJ.bindR (d _ _ _ _) fun _ _=>jJ.bindR (d _ _ _ _) fun _ _=>jJ.refl _) ?_;exact jJ.bindR (d _ _ _ _) fun _ _=>jJ.ite (jJ.refl _) (d _ _ _ _)
  ·intro y p l st
   cases l with
   |nil=>simp only[Dn];exact jJ.refl _
   |cons e l=>
    simp only[Dn];exact jJ.bindR (d _ _ _ _) fun _ _=>jJ.bindR (z _ _ _ _) fun _ _=>jJ.refl _
  ·intro y p i l st
   simp only[Rr];refine jJ.ite (jJ.refl _) ?_
   cases cx.funs[i.toNat]? with
   |none=>exact jJ.refl _
   |some f=>exact jJ.ite (jJ.refl _) (jJ.bindR (z _ _ _ _) fun _ _=>jJ.bindR (jJ.refl _) fun _ _=>jJ.bindR (g _ _ _ _) fun _ _=>jJ.refl _)
  ·rintro y p ⟨k,s,l,t,u⟩ st
   simp only[rA];refine jJ.ite ?_ (jJ.ite ?_ (jJ.ite ?_ (jJ.ite ?_ (jJ.ite ?_ (jJ.ite ?_ (jJ.ite ?_ (jJ.refl _)))))))
   ·cases l[0]? with
    |none=>exact jJ.refl _
    |some a=>exact jJ.bindR (d _ _ _ _) fun _ _=>jJ.refl _
   ·cases l[0]? with
    |none=>exact jJ.refl _
    |some a=>
     cases l[1]? with
     |none=>exact jJ.refl _
     |some b=>exact jJ.bindR (d _ _ _ _) fun _ _=>jJ.bindR (d _ _ _ _) fun _ _=>jJ.refl _
   ·cases l[0]? with
    |none=>exact jJ.refl _
    |some a=>exact jJ.bindR (d _ _ _ _) fun _ _=>jJ.refl _
   ·cases l[0]? with
    |none=>exact jJ.refl _
    |some a=>exact jJ.bindR (d _ _ _ _) fun _ _=>jJ.ite (g _ _ _ _) (g _ _ _ _)
   ·cases l[0]? with
    |none=>exact jJ.refl _
    |some a=>exact B _ _ _ _ _
   ·exact jJ.bindR (A _ _ _ _ _) fun _ _=>jJ.refl _
   cases l[0]? with
   |none=>exact jJ.refl _
   |some a=>exact jJ.bindR (d _ _ _ _) fun _ _=>jJ.refl _
  ·intro y p l st
   cases l with
   |nil=>simp only[oS];exact jJ.refl _
   |cons s l=>
    simp only[oS];refine jJ.bindR (C _ _ _ _) fun r st=>?_
    cases r.1 with
    |some v=>exact jJ.refl _
    |none=>exact g _ _ _ _
  intro y p c t st;simp only[Af];refine jJ.bindR (jJ.refl _) fun _ st=>jJ.bindR (d _ _ _ _) fun x st=>jJ.ite (jJ.refl _) (jJ.bindR (g _ _ _ _) fun r st=>?_)
  cases r.1 with
  |some v=>exact jJ.refl _
  |none=>exact B _ _ _ _ _
theorem If {b:Type} {f:Nat→Option b} (h: ∀n,jJ (f n) (f (n+1))) {n m:Nat} (c:n≤m):jJ (f n) (f m):=by
 induction m with
 |zero=>obtain rfl:n=0:=by omega
        exact jJ.refl _
 |succ m ih=>
  rcases wE m n with h1|h1
  ·obtain rfl:n=m+1:=by omega
   exact jJ.refl _
  exact fun o a=>h m o (ih h1 o a)
theorem Xb {cx:Cx} {n m:Nat} (a:n≤m) {rs ow e st o} (h:nH cx n rs ow e st=some o):nH cx m rs ow e st=some o:=If (f:=fun n=>nH cx n rs ow e st) (fun n=>(D5 cx n).E _ _ _ _) a o h
theorem IK {cx:Cx} {n m:Nat} (a:n≤m) {rs ow e st o} (h:rA cx n rs ow e st=some o):rA cx m rs ow e st=some o:=If (f:=fun n=>rA cx n rs ow e st) (fun n=>(D5 cx n).S _ _ _ _) a o h
theorem IL {cx:Cx} {n m:Nat} (a:n≤m) {rs ow e st o} (h:oS cx n rs ow e st=some o):oS cx m rs ow e st=some o:=If (f:=fun n=>oS cx n rs ow e st) (fun n=>(D5 cx n).L _ _ _ _) a o h
def Yk {α:Type} (f:Nat→Option (Rz α)) (P:α→RS→Prop):Prop:= ∃n r,f n=some r∧ ∀a s,r= .val a s→P a s
def Eo {α:Type} (f:Nat→Option α):Prop:= ∀n,jJ (f n) (f (n+1))
theorem Eo.const {a:Type} (x:Option a):Eo fun _=>x:=fun _=>jJ.refl _
theorem Yk.const {b:Type} {x:Rz b} {P:b→RS→Prop} (h: ∀a s,x= .val a s→P a s):Yk (fun _=>some x) P:=⟨0,x,rfl,h⟩
theorem Yk.mono {b:Type} {f:Nat→Option (Rz b)} {P Q:b→RS→Prop} (h:Yk f P) (g: ∀a s,P a s→Q a s):Yk f Q:=by
 obtain⟨n,r,c,d⟩:=h;exact⟨n,r,c,fun a s e=>g a s (d a s e)⟩
theorem Yk.bind {b d:Type} {f:Nat→Option (Rz b)} {g:b→RS→Nat→Option (Rz d)} {P:b→RS→Prop} {Q:d→RS→Prop} (h:Yk f P) (hf:Eo f) (v: ∀a s,Eo (g a s)) (o: ∀a s,P a s→Yk (g a s) Q):Yk (fun n=>bindR (f n) fun a s=>g a s n) Q:=by
 obtain⟨n,r,c,t⟩:=h
 cases r with
 |fin e s=>exact⟨n, .fin e s,by simp only[c,bindR],fun a s e=>by cases e⟩
 |val a s=>
  obtain⟨m,r,p,u⟩:=o a s (t a s rfl);refine⟨max n m,r, ?_,u⟩;have k:=If hf (Nat.le_max_left n m) _ c;have l:=If (v a s) (Nat.le_max_right n m) _ p;simp only[k,bindR];exact l
theorem Yk.ite {b:Type} {c:Prop} [Decidable c] {f g:Nat→Option (Rz b)} {P:b→RS→Prop} (d:c→Yk f P) (k: ¬c→Yk g P):Yk (fun n=>if c then f n else g n) P:=by
 by_cases h:c
 ·obtain⟨n,r,e,a⟩:=d h;exact⟨n,r,by simp only[bP h,e],a⟩
 obtain⟨n,r,e,a⟩:=k h;exact⟨n,r,by simp only[aM h,e],a⟩
theorem Yk.succ {a:Type} {f g:Nat→Option (Rz a)} {P:a→RS→Prop} (h:Yk f P) (d: ∀n,g (n+1)=f n):Yk g P:=by
 obtain⟨n,r,b,c⟩:=h;exact⟨n+1,r,by rw[d,b],c⟩
theorem Eo.bind {b d:Type} {f:Nat→Option (Rz b)} {g:b→RS→Nat→Option (Rz d)} (hf:Eo f) (c: ∀a s,Eo (g a s)):Eo fun n=>bindR (f n) fun a s=>g a s n:=fun n=>jJ.bindR (hf n) fun a s=>c a s n
theorem Eo.ite {b:Type} {c:Prop} [Decidable c] {f g:Nat→Option b} (hf:Eo f) (a:Eo g):Eo fun n=>if c then f n else g n:=fun n=>jJ.ite (hf n) (a n)
structure Nm (cx:Cx) (nv na i:Nat) where
 w:Nat
 res:dC→Bool×Int
structure Fm (nv na t:Nat) (s:RS):Prop where
 v:s.vars.length=nv
 a:s.arrs.length=na
 t:t≤s.ticks
theorem Fm.self {nv na t:Nat} {s:RS} (h:Fm nv na t s):Fm nv na s.ticks s:=⟨h.v,h.a,bE _⟩
theorem Fm.trans {nv na t b:Nat} {s:RS} (c:t≤b) (h:Fm nv na b s):Fm nv na t s:=⟨h.v,h.a,nM c h.t⟩
def PG (cx:Cx) (nv na j:Nat):Prop:= ∀f,cx.funs[j]?=some f→ ∀(ow:List Int) (st:RS),ow.length=f.words→st.vars.length=nv→st.arrs.length=na→
 Yk (fun n=>oS cx n f.res ow f.body st) (fun _ s=>Fm nv na st.ticks s)
section
variable {cx : Cx} {nv na i : Nat} {f : Cf} (hf : cx.funs[i]? = some f) (hb : ∀ j, j < i → PG cx nv na j)
include hf hb
end
section
variable {cx : Cx} {nv na i : Nat} {f : Cf} (hf : cx.funs[i]? = some f) (hb : ∀ j, j < i → PG cx nv na j)
include hf hb
end
def Cx.main (cx:Cx):Option Cf:=cx.funs[cx.funs.length- 1]?
def RS.init (nv:Nat) (sizes:List Nat):RS:=⟨List.replicate nv 0,sizes.map fun n=>List.replicate n 0,0,[],0⟩
def IM {α:Type}:Rz α→Int×dC×Nat
 | .val _ s=>(1,s.out,s.ticks)
 | .fin e s=>(e,s.out,s.ticks)
def PY (cx:Cx) (n nv:Nat) (sizes:List Nat):Option (Int×dC×Nat):=cx.main.bind fun f=>(oS cx n f.res (List.replicate f.words 0) f.body (RS.init nv sizes)).map IM
inductive PV (rs:dC→Bool×Int) (st:RS):Ex→Int→Prop where
 |num {o m:Int} {s:dC} {l:List Ex}:PV rs st (.mk 1 o m s l) m
 |var {o m:Int} {s:dC} {l:List Ex} {v:Int} (h:Vx (rs s) [] st=some v):PV rs st (.mk 2 o m s l) v
 |idx {o m:Int} {s:dC} {a:Ex} {x v:Int} {l:List Int} (ha:PV rs st a x) (h0:0≤(rs s).2) (h1:st.arrs[(rs s).2.toNat]?=some l) (h3:l[x.toNat]?=some v):PV rs st (.mk 3 o m s [a]) v
 |op {o m:Int} {s:dC} {a b:Ex} {x y v:Int} (ha:PV rs st a x) (hb:PV rs st b y) (h:eX o x y=(v,0)):PV rs st (.mk 6 o m s [a,b]) v
 |neg {o m:Int} {s:dC} {a:Ex} {x v:Int} (ha:PV rs st a x) (h:(if x=0 then 1 else 0)=v):PV rs st (.mk 7 o m s [a]) v
theorem yI {cx:Cx} {n m:Nat} (a:n≤m) {rs ow e st r} (h:nH cx n rs ow e st=some r):nH cx m rs ow e st=some r:=by
 induction m with
 |zero=>obtain rfl:n=0:=by omega
        exact h
 |succ m ih=>
  rcases wE m n with c|c
  ·obtain rfl:n=m+1:=by omega
   exact h
  exact(D5 cx m).E _ _ _ _ _ (ih c)
theorem C7 {cx:Cx} {n m:Nat} (a:n≤m) {rs ow e st r} (h:oS cx n rs ow e st=some r):oS cx m rs ow e st=some r:=by
 induction m with
 |zero=>obtain rfl:n=0:=by omega
        exact h
 |succ m ih=>
  rcases wE m n with c|c
  ·obtain rfl:n=m+1:=by omega
   exact h
  exact(D5 cx m).L _ _ _ _ _ (ih c)
theorem PV.ev {rs:dC→Bool×Int} {st:RS} {e:Ex} {v:Int} (cx:Cx) (h:PV rs st e v): ∃n,nH cx n rs [] e st=some (.val v st):=by
 induction h with
 |num=>exact⟨1,by simp [nH]⟩
 |var h=>exact⟨1,by simp [nH,h]⟩
 | @idx o m s a x v l ha h0 d h3 ih=>
   obtain⟨n,c⟩:=ih;have f:x.toNat<l.length:=(bC.1 h3).1;refine⟨n+1, ?_⟩;simp [nH,c,bindR,h0,Z2,d,f];exact(bC.1 h3).2
 | @op o m s a b x y v ha hb h iha ihb=>
   obtain⟨n,c⟩:=iha;obtain⟨k,g⟩:=ihb;refine⟨n+k+1, ?_⟩;have d:=yI (m:=n+k) (by omega) c;have f:=yI (m:=n+k) (by omega) g;simp [nH,d,f,bindR,h]
 | @neg o m s a x v ha h ih=>
   obtain⟨n,c⟩:=ih;refine⟨n+1, ?_⟩;simp [nH,c,bindR,h]
def Wp (cx:Cx) (rs:dC→Bool×Int) (l:List Sm) (st:RS) (P:RS→Prop):Prop:= ∃n st',oS cx n rs [] l st=some (.val (none,[]) st')∧P st'
section
variable {cx : Cx} {rs : dC → Bool × Int} {st : RS} {P : RS → Prop} {l : List Sm}
theorem Wp.nil (h:P st):Wp cx rs [] st P:=⟨1,st,by simp [oS],h⟩
theorem Wp.imp {Q:RS→Prop} (h:Wp cx rs l st Q) (c: ∀s,Q s→P s):Wp cx rs l st P:=by
 obtain⟨n,s,a,b⟩:=h;exact⟨n,s,a,c s b⟩
theorem Wp.one {s:Sm} {a:RS} (d: ∃n,rA cx n rs [] s st=some (.val (none,[]) a)) (h:Wp cx rs l a P):Wp cx rs (s::l) st P:=by
 obtain⟨n,b⟩:=d;obtain⟨k,i,g,f⟩:=h
 have j: ∀m,n≤m→rA cx m rs [] s st=some (.val (none,[]) a):=by
  intro m o
  induction m with
  |zero=>obtain rfl:n=0:=by omega
         exact b
  |succ m ih=>
   rcases wE m n with c|c
   ·obtain rfl:n=m+1:=by omega
    exact b
   exact(D5 cx m).S _ _ _ _ _ (ih c)
 refine⟨n+k+1,i, ?_,f⟩;have e:=C7 (m:=n+k) (by omega) g;simp [oS,j (n+k) (by omega),bindR,e]
theorem Wp.set {s:dC} {e:Ex} {t u:List Sm} {v i:Int} (f:PV rs st e v) (b:rs s=(false,i)) (a:0≤i) (c:i.toNat<st.vars.length) (h:Wp cx rs l {st with vars:=st.vars.set i.toNat v} P):Wp cx rs (.mk 1 s [e] t u::l) st P:=by
 obtain⟨n,d⟩:=f.ev cx;exact .one ⟨n+1,by simp [rA,d,bindR,Vf,b,a,c]⟩ h
theorem Wp.get {s:dC} {o m:Int} {s':dC} {l':List Ex} {t u:List Sm} {v i:Int} {a:RS} (c:zH cx st= .val v a) (d:rs s=(false,i)) (b:0≤i) (e:i.toNat<a.vars.length) (h:Wp cx rs l {a with vars:=a.vars.set i.toNat v} P):Wp cx rs (.mk 1 s [.mk 5 o m s' l'] t u::l) st P:=
 .one ⟨2,by simp [rA,nH,c,bindR,Vf,d,b,e]⟩ h
theorem Wp.store {s:dC} {a e:Ex} {t u:List Sm} {x v:Int} {b:Bool} {i:Int} {arr:List Int} (A:PV rs st a x) (z:PV rs st e v) (j:rs s=(b,i)) (c:0≤i) (g:st.arrs[i.toNat]?=some arr) (p:x.toNat<arr.length) (h:Wp cx rs l (Zn i x.toNat v st) P):Wp cx rs (.mk 2 s [a,e] t u::l) st P:=by
 obtain⟨n,y⟩:=A.ev cx;obtain⟨k,o⟩:=z.ev cx;have d:=yI (m:=n+k) (by omega) y;have f:=yI (m:=n+k) (by omega) o;exact .one ⟨n+k+1,by simp [rA,d,f,bindR,j,c,Z2,g,p]⟩ h
theorem Wp.put {s:dC} {e:Ex} {t u:List Sm} {v:Int} (b:PV rs st e v) (c:st.out.length<65536) (h:Wp cx rs l {st with out:=st.out++[UInt8.ofNat (IntKind.wrap .u8 v).toNat]} P):Wp cx rs (.mk 3 s [e] t u::l) st P:=by
 obtain⟨n,a⟩:=b.ev cx;have : ¬65536≤st.out.length:=by omega
 exact .one ⟨n+1,by simp [rA,a,bindR,Le,this]⟩ h
theorem Wp.sub {s:Sm} {Q:RS→Prop} (c: ∃n a,rA cx n rs [] s st=some (.val (none,[]) a)∧Q a) (h: ∀b,Q b→Wp cx rs l b P):Wp cx rs (s::l) st P:=by
 obtain⟨n,a,d,e⟩:=c;exact .one ⟨n,d⟩ (h a e)
theorem Wp.cond (Q:RS→Prop) {s:dC} {e:Ex} {t:List Sm} {v:Int} (j:PV rs st e v) (d:v≠0→Wp cx rs t st Q) (f:v=0→Q st) (h: ∀b,Q b→Wp cx rs l b P):Wp cx rs (.mk 4 s [e] t []::l) st P:=by
 obtain⟨n,a⟩:=j.ev cx;refine .sub ?_ h;by_cases c:v=0
 ·exact⟨n+2,st,by simp [rA,yI (m:=n+1) (by omega) a,bindR,c,oS],f c⟩
 obtain⟨k,o,i,g⟩:=d c;exact⟨n+k+1,o,by simp [rA,yI (m:=n+k) (by omega) a,bindR,c,C7 (m:=n+k) (by omega) i],g⟩
def RS.tick (s:RS):RS:={s with ticks:=s.ticks+1}
theorem Wp.loop (I:Nat→RS→Prop) (N:Nat) {s:dC} {e:Ex} {t u:List Sm} (i:st.ticks<cx.fuel) (b:I 0 st.tick)
  (step: ∀k s,k<N→I k s→ ∃v,PV rs s e v∧v≠0∧Wp cx rs t s (fun f=>f.ticks<cx.fuel∧I (k+1) f.tick))
  (stop: ∀s,I N s→PV rs s e 0∧Wp cx rs l s P):Wp cx rs (.mk 5 s [e] t u::l) st P:=by
 have J: ∀j k,k+j=N→ ∀st:RS,st.ticks<cx.fuel→I k st.tick→ ∃n a,Af cx n rs [] e t st=some (.val (none,[]) a)∧I N a:=by
  intro j
  induction j with
  |zero=>
   intro k D st i b;obtain rfl:k=N:=by omega
   obtain⟨n,d⟩:=(stop _ b).1.ev cx;have d:nH cx n rs [] e {st with ticks:=st.ticks+1}=some (.val 0 st.tick):=d;exact⟨n+1,st.tick,by simp [Af,nF,bindR,show ¬cx.fuel≤st.ticks by omega,d],b⟩
  |succ j ih=>
   intro k D st i b;obtain⟨v,G,H,m,o,E,C,A⟩:=step k _ (by omega) b;obtain⟨n,d⟩:=G.ev cx;obtain⟨q,a,p,B⟩:=ih (k+1) (by omega) o C A
   have K:Af cx (n+m+q) rs [] e t o=some (.val (none,[]) a):=by
    have : ∀r,q≤r→Af cx r rs [] e t o=some (.val (none,[]) a):=by
     intro r L
     induction r with
     |zero=>obtain rfl:q=0:=by omega
            exact p
     |succ r ihr=>
      rcases wE r q with c|c
      ·obtain rfl:q=r+1:=by omega
       exact p
      exact(D5 cx r).W _ _ _ _ _ _ (ihr c)
    exact this _ (by omega)
   refine⟨n+m+q+1,a, ?_,B⟩;have g:=yI (m:=n+m+q) (by omega) d;have x:=C7 (m:=n+m+q) (by omega) E;have g:nH cx (n+m+q) rs [] e {st with ticks:=st.ticks+1}=some (.val v st.tick):=g;simp [Af,nF,bindR,show ¬cx.fuel≤st.ticks by omega,g,H,x,K]
 obtain⟨n,a,y,z⟩:=J N 0 (by omega) st i b;exact .sub ⟨n+1,a,by simp [rA,y],z⟩ fun f F=>(stop f F).2
end
abbrev gX (x:Int):Int:=IntKind.wrap .u32 x
def Zl (c:Int):Int:=
 if c=43 then 4 else if c=45 then 5 else if c=42 then 6 else if c=47 then 7 else if c=37 then 8 else if c=38 then 9 else if c=124 then 10 else if c=94 then 11 else if c=76 then 12 else if c=82 then 13 else if c=60 then 14 else if c=61 then 15
 else if c=33 then 1326579712 else if c=63 then 1997537280 else if c=64 then 1343357056 else if c=35 then 420483072 else if c=46 then 941621248 else if c=32 then 1645215744 else if c=69 then 908066816 else if c=36 then 1509949440 else 0
structure Zs where
 d:Int
 s:Int
 m:Int
def En (c:Int):Int:=if c<256 then Zl c else c
def zY (c:Int):Int:=if En c=0 then 1125253120 else En c
def uH (c:Int):Int:=if zY c<16 then gX (gX (zY c *16777216)+537985026)else zY c
def Tu (c:Int) (z:Zs):Int:=if gX (c- 48)<10 then gX (gX (z.m *10)+gX (c- 48))else z.m
def G2 (c:Int) (z:Zs):Int:=if c=32 then gX (uH c+Tu c z/65536)else uH c
def Ku (c:Int) (z:Zs):Int:=if c=32 then 0 else Tu c z
def Yu (c:Int) (z:Zs):Int:=if gX (c- 97)<26 then gX (z.s+c)else G2 c z
def Y8 (c:Int) (z:Zs):Int:=if gX (c- 97)<26 then 1880096768 else z.s
def Yv (c:Int) (z:Zs):Int:=if c=58 then 824180736 else Y8 c z
def Kt (q c:Int) (z:Zs):Int:=if c=87 then gX (1628438528+gX (q *4))else Yu c z
def Z4 (c:Int) (z:Zs):Int:=if c=32 then gX (17825792+Tu c z % 65536)else gX (269484032+z.d)
def P3 (c:Int) (z:Zs):Int:=if c=64 then 421531648 else Z4 c z
def zd (q c:Int) (z:Zs):Int:=gX (gX (z.d+Kt q c z/536870912)- 2)
def Z3 (q c:Int) (z:Zs):Int:=if c=35 then 287375488 else gX (286261249+zd q c z)
def vA (q c:Int) (z:Zs):List Int:=[gX (270532609+z.d),P3 c z,Kt q c z % 536870912,Z3 q c z]
def Ag (q c:Int) (z:Zs):Zs:=⟨zd q c z,Yv c z,Ku c z⟩
def jN:List Int→Nat→Zs→Zs×List Int
 |[],_,z=>(z,[])
 |c::T,q,z=>((jN T (q+1) (Ag q c z)).1,vA q c z++(jN T (q+1) (Ag q c z)).2)
theorem yP (A B:List Int): ∀(q:Nat) (z:Zs),jN (A++B) q z=((jN B (q+A.length) (jN A q z).1).1,(jN A q z).2++(jN B (q+A.length) (jN A q z).1).2):=by
 induction A with
 |nil=>intro q z;simp [jN]
 |cons c A ih=>
  intro q z;simp only[cN,jN,ih,aJ,bQ];rw[show q+1+A.length=q+(A.length+1)by omega]
theorem P4 (A:List Int) (c:Int) (q:Nat) (z:Zs):jN (A++[c]) q z=(Ag (q+A.length:Nat) c (jN A q z).1,(jN A q z).2++vA (q+A.length:Nat) c (jN A q z).1):=by
 rw[yP];simp [jN]
def K9 (c:UInt8) (p:List Int×Int):Option (List Int×Int):=
 if c=68∨c=73 then some (p.1++[p.2],p.1.length)
 else if c=69∨c=70 then
  (if 0≤p.2 then match p.1[p.2.toNat]? with
   |some x=>some ((p.1++[(c.toNat:Int)]).set p.2.toNat (857735172+4 *(p.1.length:Int)),x)
   |none=>none
  else none)
 else some (p.1++[(c.toNat:Int)],p.2)
def xB:dC→List Int×Int→Option (List Int×Int)
 |[],p=>some p
 |c::t,p=>(K9 c p).bind (xB t)
theorem lL (a b:dC) (p:List Int×Int):xB (a++b) p=(xB a p).bind (xB b):=by
 induction a generalizing p with
 |nil=>rfl
 |cons c a ih=>
  simp only[cN,xB]
  cases K9 c p with
  |none=>rfl
  |some p'=>simp only[cA,ih]
theorem LJ {c:UInt8} {p p':List Int×Int} (h:K9 c p=some p'):p'.1.length=p.1.length+1:=by
 unfold K9 at h;split at h
 ·cases h;simp
 split at h
 ·split at h
  ·split at h
   ·cases h;simp
   cases h
  cases h
 cases h;simp
theorem J9 {t:dC} {p p':List Int×Int} (h:xB t p=some p'):p'.1.length=p.1.length+t.length:=by
 induction t generalizing p with
 |nil=>cases h;simp
 |cons c t ih=>
  simp only[xB,cH]at h;obtain⟨p1,h1,h2⟩:=h;rw[ih h2,LJ h1,aJ];omega
def RB (x:Int):dC:=[UInt8.ofNat (x % 256).toNat,UInt8.ofNat (x/256 % 256).toNat,UInt8.ofNat (x/65536 % 256).toNat,UInt8.ofNat (x/16777216 % 256).toNat]
def uP:List Int→dC
 |[]=>[]
 |x::l=>RB x++uP l
theorem Sr: ∀a b:List Int,uP (a++b)=uP a++uP b
 |[],b=>rfl
 |x::a,b=>by simp only[cN,uP,Sr a b,bQ]
theorem Fa: ∀a:List Int,(uP a).length=4 *a.length
 |[]=>rfl
 |x::a=>by simp only[uP,RB,aB,Fa a,aJ,aS];omega
def RY:Zs:=⟨0,1880096768,0⟩
def Wm (T:List Int):List Int:=[1145390419,4 *(T.length:Int),4224]++(jN T 0 RY).2
theorem vB: ∀(T:List Int) (q:Nat) (z:Zs),(jN T q z).2.length=4 *T.length
 |[],_,_=>rfl
 |c::T,q,z=>by simp only[jN,aB,vB T,vA,aJ,aS];omega
theorem E4 (a b:Int):eX 4 a b=(gX (a+b),0):=by simp [eX]
theorem JK (a b:Int):eX 5 a b=(gX (a-b),0):=by simp [eX]
theorem RN (a b:Int):eX 6 a b=(gX (a *b),0):=by simp [eX]
theorem Br (a b:Int):eX 14 a b=(if a<b then 1 else 0,0):=by simp [eX]
theorem Yb (a b:Int):eX 15 a b=(if a=b then 1 else 0,0):=by simp [eX]
theorem RO (a:Int):eX 13 a 8=(a/256,0):=by simp [eX,oI]
theorem P1 (a:Int):eX 13 a 16=(a/65536,0):=by simp [eX,oI]
theorem NA (a:Int):eX 13 a 24=(a/16777216,0):=by simp [eX,oI]
theorem MZ (a:Int):eX 13 a 29=(a/536870912,0):=by simp [eX,oI]
theorem XB {a:Int} (h:0≤a∧a<4294967296) (k:Nat) (t:k≤31) (b:Int) (p:b=((2^k- 1:Nat):Int)):eX 9 a b=(a % ((2^k:Nat):Int),0):=by
 obtain⟨u,rfl⟩: ∃u:Nat,a=u:=⟨a.toNat,by omega⟩;subst p;have A:u<2^32:=by omega
 have y:(2:Nat)^k≤2^31:=Nat.pow_le_pow_right (by decide) t;have j:0<(2:Nat)^k:=Nat.pow_pos (by decide);have e:(BitVec.ofInt 32 (u:Int)).toNat=u:=by rw[BitVec.ofInt_natCast,BitVec.toNat_ofNat];omega
 have f:(BitVec.ofInt 32 ((2^k- 1:Nat):Int)).toNat=2^k- 1:=by rw[BitVec.ofInt_natCast,BitVec.toNat_ofNat];omega
 have g:(BitVec.ofInt 32 (u:Int)&&&BitVec.ofInt 32 ((2^k- 1:Nat):Int)).toNat=u % 2^k:=by
  rw[BitVec.toNat_and,e,f,Nat.and_two_pow_sub_one_eq_mod]
 have z:u % 2^k<2^k:=rN _ j;unfold eX;rw[aM (by decide),aM (by decide),aM (by decide),aM (by decide),aM (by decide),bP rfl,g];rw[gG _ (by omega)];simp
theorem RL {a:Int} (h:0≤a∧a<4294967296):eX 9 a 65535=(a % 65536,0):=XB h 16 (by decide) _ rfl
theorem RJ {a:Int} (h:0≤a∧a<4294967296):eX 9 a 536870911=(a % 536870912,0):=XB h 29 (by decide) _ rfl
theorem Yg (x:Int):0≤gX x∧gX x<4294967296:=by
 show 0≤IntKind.wrap .u32 x∧IntKind.wrap .u32 x<_;rw[IntKind.wrap_u32];omega
theorem eN {x:Int} (h:0≤x∧x<4294967296):gX x=x:=gG _ (by omega)
def jK (c n o x s m v d i q:Int) (arr:List Int) (rd:Nat) (out:dC) (tk:Nat):RS:=⟨[c,n,o,x,s,m,v,d,i,q],[arr],rd,out,tk⟩
structure oG (rs:dC→Bool×Int):Prop where
 c:rs [99]=(false,0)
 n:rs [110]=(false,1)
 o:rs [111]=(false,2)
 x:rs [120]=(false,3)
 s:rs [115]=(false,4)
 m:rs [109]=(false,5)
 v:rs [118]=(false,6)
 d:rs [100]=(false,7)
 i:rs [105]=(false,8)
 q:rs [113]=(false,9)
 t:(rs [116]).2=0
section
variable {cx : Cx} {rs : dC → Bool × Int} {P : RS → Prop} {l : List Sm} {c n o x s m v d i q : Int} {arr : List Int} {rd : Nat} {out : dC} {tk : Nat}
theorem oG.vc (H:oG rs):PV rs (jK c n o x s m v d i q arr rd out tk) (.mk 2 0 0 [99] []) c:= .var (by rw[H.c];rfl)
theorem oG.vn (H:oG rs):PV rs (jK c n o x s m v d i q arr rd out tk) (.mk 2 0 0 [110] []) n:= .var (by rw[H.n];rfl)
theorem oG.vo (H:oG rs):PV rs (jK c n o x s m v d i q arr rd out tk) (.mk 2 0 0 [111] []) o:= .var (by rw[H.o];rfl)
theorem oG.vx (H:oG rs):PV rs (jK c n o x s m v d i q arr rd out tk) (.mk 2 0 0 [120] []) x:= .var (by rw[H.x];rfl)
theorem oG.vs (H:oG rs):PV rs (jK c n o x s m v d i q arr rd out tk) (.mk 2 0 0 [115] []) s:= .var (by rw[H.s];rfl)
theorem oG.vm (H:oG rs):PV rs (jK c n o x s m v d i q arr rd out tk) (.mk 2 0 0 [109] []) m:= .var (by rw[H.m];rfl)
theorem oG.vv (H:oG rs):PV rs (jK c n o x s m v d i q arr rd out tk) (.mk 2 0 0 [118] []) v:= .var (by rw[H.v];rfl)
theorem oG.vd (H:oG rs):PV rs (jK c n o x s m v d i q arr rd out tk) (.mk 2 0 0 [100] []) d:= .var (by rw[H.d];rfl)
theorem oG.vi (H:oG rs):PV rs (jK c n o x s m v d i q arr rd out tk) (.mk 2 0 0 [105] []) i:= .var (by rw[H.i];rfl)
theorem oG.vq (H:oG rs):PV rs (jK c n o x s m v d i q arr rd out tk) (.mk 2 0 0 [113] []) q:= .var (by rw[H.q];rfl)
theorem oG.wc (H:oG rs) {e:Ex} {w:Int} (a:PV rs (jK c n o x s m v d i q arr rd out tk) e w) (h:Wp cx rs l (jK w n o x s m v d i q arr rd out tk) P):Wp cx rs (.mk 1 [99] [e] [] []::l) (jK c n o x s m v d i q arr rd out tk) P:= .set a H.c (by decide) (by show _<10;decide) h
theorem oG.wn (H:oG rs) {e:Ex} {w:Int} (a:PV rs (jK c n o x s m v d i q arr rd out tk) e w) (h:Wp cx rs l (jK c w o x s m v d i q arr rd out tk) P):Wp cx rs (.mk 1 [110] [e] [] []::l) (jK c n o x s m v d i q arr rd out tk) P:= .set a H.n (by decide) (by show _<10;decide) h
theorem oG.wo (H:oG rs) {e:Ex} {w:Int} (a:PV rs (jK c n o x s m v d i q arr rd out tk) e w) (h:Wp cx rs l (jK c n w x s m v d i q arr rd out tk) P):Wp cx rs (.mk 1 [111] [e] [] []::l) (jK c n o x s m v d i q arr rd out tk) P:= .set a H.o (by decide) (by show _<10;decide) h
theorem oG.wx (H:oG rs) {e:Ex} {w:Int} (a:PV rs (jK c n o x s m v d i q arr rd out tk) e w) (h:Wp cx rs l (jK c n o w s m v d i q arr rd out tk) P):Wp cx rs (.mk 1 [120] [e] [] []::l) (jK c n o x s m v d i q arr rd out tk) P:= .set a H.x (by decide) (by show _<10;decide) h
theorem oG.ws (H:oG rs) {e:Ex} {w:Int} (a:PV rs (jK c n o x s m v d i q arr rd out tk) e w) (h:Wp cx rs l (jK c n o x w m v d i q arr rd out tk) P):Wp cx rs (.mk 1 [115] [e] [] []::l) (jK c n o x s m v d i q arr rd out tk) P:= .set a H.s (by decide) (by show _<10;decide) h
theorem oG.wm (H:oG rs) {e:Ex} {w:Int} (a:PV rs (jK c n o x s m v d i q arr rd out tk) e w) (h:Wp cx rs l (jK c n o x s w v d i q arr rd out tk) P):Wp cx rs (.mk 1 [109] [e] [] []::l) (jK c n o x s m v d i q arr rd out tk) P:= .set a H.m (by decide) (by show _<10;decide) h
theorem oG.wv (H:oG rs) {e:Ex} {w:Int} (a:PV rs (jK c n o x s m v d i q arr rd out tk) e w) (h:Wp cx rs l (jK c n o x s m w d i q arr rd out tk) P):Wp cx rs (.mk 1 [118] [e] [] []::l) (jK c n o x s m v d i q arr rd out tk) P:= .set a H.v (by decide) (by show _<10;decide) h
theorem oG.wd (H:oG rs) {e:Ex} {w:Int} (a:PV rs (jK c n o x s m v d i q arr rd out tk) e w) (h:Wp cx rs l (jK c n o x s m v w i q arr rd out tk) P):Wp cx rs (.mk 1 [100] [e] [] []::l) (jK c n o x s m v d i q arr rd out tk) P:= .set a H.d (by decide) (by show _<10;decide) h
theorem oG.wi (H:oG rs) {e:Ex} {w:Int} (a:PV rs (jK c n o x s m v d i q arr rd out tk) e w) (h:Wp cx rs l (jK c n o x s m v d w q arr rd out tk) P):Wp cx rs (.mk 1 [105] [e] [] []::l) (jK c n o x s m v d i q arr rd out tk) P:= .set a H.i (by decide) (by show _<10;decide) h
theorem oG.wq (H:oG rs) {e:Ex} {w:Int} (a:PV rs (jK c n o x s m v d i q arr rd out tk) e w) (h:Wp cx rs l (jK c n o x s m v d i w arr rd out tk) P):Wp cx rs (.mk 1 [113] [e] [] []::l) (jK c n o x s m v d i q arr rd out tk) P:= .set a H.q (by decide) (by show _<10;decide) h
theorem oG.it (H:oG rs) {a:Ex} {y w:Int} (e:PV rs (jK c n o x s m v d i q arr rd out tk) a y) (b:arr[y.toNat]?=some w):PV rs (jK c n o x s m v d i q arr rd out tk) (.mk 3 0 0 [116] [a]) w:= .idx e (by rw[H.t];decide) (by rw[H.t];rfl) b
theorem oG.st (H:oG rs) {a e:Ex} {y w:Int} (j:PV rs (jK c n o x s m v d i q arr rd out tk) a y) (g:PV rs (jK c n o x s m v d i q arr rd out tk) e w) (f:y.toNat<arr.length) (h:Wp cx rs l (jK c n o x s m v d i q (arr.set y.toNat w) rd out tk) P):Wp cx rs (.mk 2 [116] [a,e] [] []::l) (jK c n o x s m v d i q arr rd out tk) P:=
 .store (b:=(rs [116]).1) (i:=0) j g (by rw[←H.t]) (Int.le_refl 0) rfl f h
end
def FM:List Sm:=[.mk 2 [116] [.mk 1 0 3043 [] [], .mk 1 0 4 [] []] [] [],
 .mk 2 [116] [.mk 1 0 3045 [] [], .mk 1 0 5 [] []] [] [],
 .mk 2 [116] [.mk 1 0 3042 [] [], .mk 1 0 6 [] []] [] [],
 .mk 2 [116] [.mk 1 0 3047 [] [], .mk 1 0 7 [] []] [] [],
 .mk 2 [116] [.mk 1 0 3037 [] [], .mk 1 0 8 [] []] [] [],
 .mk 2 [116] [.mk 1 0 3038 [] [], .mk 1 0 9 [] []] [] [],
 .mk 2 [116] [.mk 1 0 3124 [] [], .mk 1 0 10 [] []] [] [],
 .mk 2 [116] [.mk 1 0 3094 [] [], .mk 1 0 11 [] []] [] [],
 .mk 2 [116] [.mk 1 0 3076 [] [], .mk 1 0 12 [] []] [] [],
 .mk 2 [116] [.mk 1 0 3082 [] [], .mk 1 0 13 [] []] [] [],
 .mk 2 [116] [.mk 1 0 3060 [] [], .mk 1 0 14 [] []] [] [],
 .mk 2 [116] [.mk 1 0 3061 [] [], .mk 1 0 15 [] []] [] [],
 .mk 2 [116] [.mk 1 0 3033 [] [], .mk 1 0 1326579712 [] []] [] [],
 .mk 2 [116] [.mk 1 0 3063 [] [], .mk 1 0 1997537280 [] []] [] [],
 .mk 2 [116] [.mk 1 0 3064 [] [], .mk 1 0 1343357056 [] []] [] [],
 .mk 2 [116] [.mk 1 0 3035 [] [], .mk 1 0 420483072 [] []] [] [],
 .mk 2 [116] [.mk 1 0 3046 [] [], .mk 1 0 941621248 [] []] [] [],
 .mk 2 [116] [.mk 1 0 3032 [] [], .mk 1 0 1645215744 [] []] [] [],
 .mk 2 [116] [.mk 1 0 3069 [] [], .mk 1 0 908066816 [] []] [] [],
 .mk 2 [116] [.mk 1 0 3036 [] [], .mk 1 0 1509949440 [] []] [] []]
def Zy:List Sm:=[.mk 2 [116] [.mk 2 0 0 [110] [], .mk 2 0 0 [99] []] [] [],
 .mk 4 [] [.mk 6 15 0 [] [.mk 6 6 0 [] [.mk 6 5 0 [] [.mk 2 0 0 [99] [], .mk 1 0 68 [] []], .mk 6 5 0 [] [.mk 2 0 0 [99] [], .mk 1 0 73 [] []]], .mk 1 0 0 [] []]] [.mk 2 [116] [.mk 2 0 0 [110] [], .mk 2 0 0 [111] []] [] [], .mk 1 [111] [.mk 2 0 0 [110] []] [] []] [],
 .mk 4 [] [.mk 6 14 0 [] [.mk 6 5 0 [] [.mk 2 0 0 [99] [], .mk 1 0 69 [] []], .mk 1 0 2 [] []]] [.mk 1 [120] [.mk 3 0 0 [116] [.mk 2 0 0 [111] []]] [] [], .mk 2 [116] [.mk 2 0 0 [111] [], .mk 6 4 0 [] [.mk 1 0 857735172 [] [], .mk 6 6 0 [] [.mk 2 0 0 [110] [], .mk 1 0 4 [] []]]] [] [], .mk 1 [111] [.mk 2 0 0 [120] []] [] []] [],
 .mk 1 [110] [.mk 6 4 0 [] [.mk 2 0 0 [110] [], .mk 1 0 1 [] []]] [] [],
 .mk 1 [99] [.mk 5 0 0 [] []] [] []]
def TV:List Sm:=[.mk 2 [116] [.mk 1 0 4001 [] [], .mk 1 0 1145390419 [] []] [] [],
 .mk 2 [116] [.mk 1 0 4002 [] [], .mk 6 6 0 [] [.mk 2 0 0 [110] [], .mk 1 0 4 [] []]] [] [],
 .mk 2 [116] [.mk 1 0 4003 [] [], .mk 1 0 4224 [] []] [] [],
 .mk 1 [105] [.mk 1 0 4001 [] []] [] [],
 .mk 1 [115] [.mk 1 0 1880096768 [] []] [] []]
def Ew:List Sm:=[.mk 1 [120] [.mk 3 0 0 [116] [.mk 2 0 0 [105] []]] [] [],
 .mk 3 [] [.mk 2 0 0 [120] []] [] [],
 .mk 3 [] [.mk 6 13 0 [] [.mk 2 0 0 [120] [], .mk 1 0 8 [] []]] [] [],
 .mk 3 [] [.mk 6 13 0 [] [.mk 2 0 0 [120] [], .mk 1 0 16 [] []]] [] [],
 .mk 3 [] [.mk 6 13 0 [] [.mk 2 0 0 [120] [], .mk 1 0 24 [] []]] [] [],
 .mk 1 [105] [.mk 6 4 0 [] [.mk 2 0 0 [105] [], .mk 1 0 1 [] []]] [] []]
def zA:List Sm:=[.mk 1 [99] [.mk 3 0 0 [116] [.mk 2 0 0 [113] []]] [] [],
 .mk 1 [118] [.mk 2 0 0 [99] []] [] [],
 .mk 4 [] [.mk 6 14 0 [] [.mk 2 0 0 [99] [], .mk 1 0 256 [] []]] [.mk 1 [118] [.mk 3 0 0 [116] [.mk 6 4 0 [] [.mk 2 0 0 [99] [], .mk 1 0 3000 [] []]]] [] []] [],
 .mk 4 [] [.mk 6 15 0 [] [.mk 2 0 0 [118] [], .mk 1 0 0 [] []]] [.mk 1 [118] [.mk 1 0 1125253120 [] []] [] []] [],
 .mk 4 [] [.mk 6 14 0 [] [.mk 2 0 0 [118] [], .mk 1 0 16 [] []]] [.mk 1 [118] [.mk 6 4 0 [] [.mk 6 6 0 [] [.mk 2 0 0 [118] [], .mk 1 0 16777216 [] []], .mk 1 0 537985026 [] []]] [] []] [],
 .mk 2 [116] [.mk 1 0 4000 [] [], .mk 6 4 0 [] [.mk 1 0 270532609 [] [], .mk 2 0 0 [100] []]] [] [],
 .mk 2 [116] [.mk 1 0 4001 [] [], .mk 6 4 0 [] [.mk 1 0 269484032 [] [], .mk 2 0 0 [100] []]] [] [],
 .mk 4 [] [.mk 6 14 0 [] [.mk 6 5 0 [] [.mk 2 0 0 [99] [], .mk 1 0 48 [] []], .mk 1 0 10 [] []]] [.mk 1 [109] [.mk 6 4 0 [] [.mk 6 6 0 [] [.mk 2 0 0 [109] [], .mk 1 0 10 [] []], .mk 6 5 0 [] [.mk 2 0 0 [99] [], .mk 1 0 48 [] []]]] [] []] [],
 .mk 4 [] [.mk 6 15 0 [] [.mk 2 0 0 [99] [], .mk 1 0 32 [] []]] [.mk 2 [116] [.mk 1 0 4001 [] [], .mk 6 4 0 [] [.mk 1 0 17825792 [] [], .mk 6 9 0 [] [.mk 2 0 0 [109] [], .mk 1 0 65535 [] []]]] [] [], .mk 1 [118] [.mk 6 4 0 [] [.mk 2 0 0 [118] [], .mk 6 13 0 [] [.mk 2 0 0 [109] [], .mk 1 0 16 [] []]]] [] [], .mk 1 [109] [.mk 1 0 0 [] []] [] []] [],
 .mk 4 [] [.mk 6 14 0 [] [.mk 6 5 0 [] [.mk 2 0 0 [99] [], .mk 1 0 97 [] []], .mk 1 0 26 [] []]] [.mk 1 [118] [.mk 6 4 0 [] [.mk 2 0 0 [115] [], .mk 2 0 0 [99] []]] [] [], .mk 1 [115] [.mk 1 0 1880096768 [] []] [] []] [],
 .mk 4 [] [.mk 6 15 0 [] [.mk 2 0 0 [99] [], .mk 1 0 58 [] []]] [.mk 1 [115] [.mk 1 0 824180736 [] []] [] []] [],
 .mk 4 [] [.mk 6 15 0 [] [.mk 2 0 0 [99] [], .mk 1 0 64 [] []]] [.mk 2 [116] [.mk 1 0 4001 [] [], .mk 1 0 421531648 [] []] [] []] [],
 .mk 4 [] [.mk 6 15 0 [] [.mk 2 0 0 [99] [], .mk 1 0 87 [] []]] [.mk 1 [118] [.mk 6 4 0 [] [.mk 1 0 1628438528 [] [], .mk 6 6 0 [] [.mk 2 0 0 [113] [], .mk 1 0 4 [] []]]] [] []] [],
 .mk 2 [116] [.mk 1 0 4002 [] [], .mk 6 9 0 [] [.mk 2 0 0 [118] [], .mk 1 0 536870911 [] []]] [] [],
 .mk 1 [100] [.mk 6 5 0 [] [.mk 6 4 0 [] [.mk 2 0 0 [100] [], .mk 6 13 0 [] [.mk 2 0 0 [118] [], .mk 1 0 29 [] []]], .mk 1 0 2 [] []]] [] [],
 .mk 2 [116] [.mk 1 0 4003 [] [], .mk 6 4 0 [] [.mk 1 0 286261249 [] [], .mk 2 0 0 [100] []]] [] [],
 .mk 4 [] [.mk 6 15 0 [] [.mk 2 0 0 [99] [], .mk 1 0 35 [] []]] [.mk 2 [116] [.mk 1 0 4003 [] [], .mk 1 0 287375488 [] []] [] []] [],
 .mk 1 [105] [.mk 1 0 4000 [] []] [] [],
 .mk 1 [113] [.mk 6 4 0 [] [.mk 2 0 0 [113] [], .mk 1 0 1 [] []]] [] []]
def oV:List Sm:=FM++(.mk 1 [99] [.mk 5 0 0 [] []] [] []:: .mk 5 [] [.mk 6 14 0 [] [.mk 2 0 0 [99] [], .mk 1 0 256 [] []]] Zy []::(TV++[.mk 5 [] [.mk 7 0 0 [] [.mk 6 14 0 [] [.mk 2 0 0 [110] [], .mk 2 0 0 [113] []]]] (.mk 5 [] [.mk 6 14 0 [] [.mk 2 0 0 [105] [], .mk 1 0 4004 [] []]] Ew []::zA) []]))
def qA:Fu:=⟨[109,97,105,110],[],[],false,oV⟩
def eY:Pg:=⟨[[99],[110],[111],[120],[115],[109],[118],[100],[105],[113]],[⟨[116],4096⟩],[qA]⟩
theorem Wp.yes {cx:Cx} {rs:dC→Bool×Int} {st:RS} {P:RS→Prop} {l:List Sm} {s:dC} {e:Ex} {t:List Sm} {v:Int} (a:PV rs st e v) (b:v≠0) (h:Wp cx rs t st (fun f=>Wp cx rs l f P)):Wp cx rs (.mk 4 s [e] t []::l) st P:= .cond _ a (fun _=>h) (fun c=>absurd c b) fun _ h=>h
theorem Wp.no {cx:Cx} {rs:dC→Bool×Int} {st:RS} {P:RS→Prop} {l:List Sm} {s:dC} {e:Ex} {t:List Sm} {v:Int} (a:PV rs st e v) (b:v=0) (h:Wp cx rs l st P):Wp cx rs (.mk 4 s [e] t []::l) st P:= .cond (fun f=>Wp cx rs l f P) a (fun c=>absurd b c) (fun _=>h) fun _ h=>h
def W1:List (Nat×Int)→Nat→Int→Int
 |[],_,x=>x
 |(i,v)::L,j,x=>W1 L j (if i=j then v else x)
def jY (L:List (Nat×Int)) (a:List Int):List Int:=L.foldl (fun a p=>a.set p.1 p.2) a
theorem Gu: ∀(L:List (Nat×Int)) (a:List Int),(jY L a).length=a.length
 |[],_=>rfl
 |p::L,a=>by show(jY L (a.set p.1 p.2)).length=_;rw[Gu L,eE]
theorem Gv: ∀(L:List (Nat×Int)) (a:List Int) (j:Nat) (x:Int),a[j]?=some x→(jY L a)[j]?=some (W1 L j x)
 |[],_,_,_,h=>h
 |(i,v)::L,a,j,x,h=>by
  show(jY L (a.set i v))[j]?=_;rw[W1];refine Gv L _ j _ ?_;have b:=(bC.1 h).1;rw[gR];by_cases c:i=j
  ·subst c;simp [b]
  simp [c,h]
theorem Ww: ∀(L:List (Nat×Int)) (j:Nat) (x:Int),(∀p∈L,p.1≠j)→W1 L j x=x
 |[],_,_,_=>rfl
 |(i,v)::L,j,x,h=>by
  rw[W1,aM (h (i,v) (dQ)),Ww L j x fun p a=>h p (fA _ a)]
def EF:List (Nat×Int):=[(3043,4),(3045,5),(3042,6),(3047,7),(3037,8),(3038,9),(3124,10),(3094,11),(3076,12),(3082,13),(3060,14),(3061,15),(3033,1326579712),(3063,1997537280),(3064,1343357056),(3035,420483072),(3046,941621248),(3032,1645215744),(3069,908066816),(3036,1509949440)]
structure AT (arr T:List Int):Prop where
 len:arr.length=4096
 tl:T.length≤2600
 eq: ∀j,j<T.length→arr[j]?=T[j]?
 z: ∀j,T.length≤j→j<3000→arr[j]?=some 0
 tab: ∀c:Nat,c<256→arr[3000+c]?=some (Zl c)
def E3:List Int:=jY EF (List.replicate 4096 0)
theorem MX:AT E3 []:=by
 have b: ∀j,j<4096→(List.replicate 4096 (0:Int))[j]?=some 0:=fun j a=>by rw[List.getElem?_replicate,bP a]
 refine⟨by rw[E3,Gu,lP],by simp,fun j a=>by simp at a,fun j _ a=>?_,fun c e=>?_⟩
 ·rw[E3,Gv EF _ j 0 (b j (by omega)),Ww]
  intro p f;have : ∀p∈EF,3000≤p.1:=by decide
  have:=this p f;omega
 rw[E3,Gv EF _ _ 0 (b _ (by omega))];have : ∀c:Nat,c<256→W1 EF (3000+c) 0=Zl c:=by decide+kernel
 rw[this c e]
theorem AT.push {arr T:List Int} (h:AT arr T) (k:T.length<2600) (c:Int):AT (arr.set T.length c) (T++[c]):=by
 have p:=h.len;refine⟨by rw[eE,h.len],by rw[aB,bW];omega,fun j g=>?_,fun j a b=>?_,fun c f=>?_⟩
 ·rw[aB,bW]at g
  rw[gR];by_cases e:T.length=j
  ·subst e;simp;omega
  rw[aM e,h.eq j (by omega),fB (by omega)]
 ·rw[aB,bW]at a
  rw[gR,aM (by omega),h.z j (by omega) b]
 rw[gR,aM (by omega),h.tab c f]
theorem AT.set {arr T:List Int} (h:AT arr T) {o:Nat} (p:o<T.length) (v:Int):AT (arr.set o v) (T.set o v):=by
 have k:=h.len;have t:=h.tl;refine⟨by rw[eE,h.len],by rw[eE];exact h.tl,fun j a=>?_,fun j b f=>?_,fun c g=>?_⟩
 ·rw[eE]at a
  rw[gR,gR];by_cases e:o=j
  ·subst e;simp [a];omega
  rw[aM e,aM e,h.eq j a]
 ·rw[eE]at b
  rw[gR,aM (by omega),h.z j b f]
 rw[gR,aM (by omega),h.tab c g]
theorem FL {cx:Cx} {rs:dC→Bool×Int} (H:oG rs) {P:RS→Prop} {l:List Sm} {c n o x s m v d i q:Int} {rd:Nat} {out:dC} {tk:Nat} (h:Wp cx rs l (jK c n o x s m v d i q E3 rd out tk) P):Wp cx rs (FM++l) (jK c n o x s m v d i q (List.replicate 4096 0) rd out tk) P:=by
 unfold FM;simp only[cN,dE];have a: ∀(L:List (Nat×Int)) (j:Nat),j<4096→j<(jY L (List.replicate 4096 0)).length:=fun L j b=>by rw[Gu,lP];exact b
 refine H.st (arr:=jY [] (List.replicate 4096 0)) .num .num (by exact a _ 3043 (by decide)) ?_;show Wp cx rs _ (jK c n o x s m v d i q (jY [(3043,4)] (List.replicate 4096 0)) rd out tk) P;refine H.st (arr:=jY [(3043,4)] (List.replicate 4096 0)) .num .num (by exact a _ 3045 (by decide)) ?_;show Wp cx rs _ (jK c n o x s m v d i q (jY [(3043,4),(3045,5)] (List.replicate 4096 0)) rd out tk) P;refine H.st (arr:=jY [(3043,4),(3045,5)] (List.replicate 4096 0)) .num .num (by exact a _ 3042 (by decide)) ?_;show Wp cx rs _ (jK c n o x s m v d i q (jY [(3043,4),(3045,5),(3042,6)] (List.replicate 4096 0)) rd out tk) P;refine H.st (arr:=jY [(3043,4),(3045,5),(3042,6)] (List.replicate 4096 0)) .num .num (by exact a _ 3047 (by decide)) ?_;show Wp cx rs _ (jK c n o x s m v d i q (jY [(3043,4),(3045,5),(3042,6),(3047,7)] (List.replicate 4096 0)) rd out tk) P;refine H.st (arr:=jY [(3043,4),(3045,5),(3042,6),(3047,7)] (List.replicate 4096 0)) .num .num (by exact a _ 3037 (by decide)) ?_;show Wp cx rs _ (jK c n o x s m v d i q (jY [(3043,4),(3045,5),(3042,6),(3047,7),(3037,8)] (List.replicate 4096 0)) rd out tk) P;refine H.st (arr:=jY [(3043,4),(3045,5),(3042,6),(3047,7),(3037,8)] (List.replicate 4096 0)) .num .num (by exact a _ 3038 (by decide)) ?_;show Wp cx rs _ (jK c n o x s m v d i q (jY [(3043,4),(3045,5),(3042,6),(3047,7),(3037,8),(3038,9)] (List.replicate 4096 0)) rd out tk) P;refine H.st (arr:=jY [(3043,4),(3045,5),(3042,6),(3047,7),(3037,8),(3038,9)] (List.replicate 4096 0)) .num .num (by exact a _ 3124 (by decide)) ?_;show Wp cx rs _ (jK c n o x s m v d i q (jY [(3043,4),(3045,5),(3042,6),(3047,7),(3037,8),(3038,9),(3124,10)] (List.replicate 4096 0)) rd out tk) P;refine H.st (arr:=jY [(3043,4),(3045,5),(3042,6),(3047,7),(3037,8),(3038,9),(3124,10)] (List.replicate 4096 0)) .num .num (by exact a _ 3094 (by decide)) ?_;show Wp cx rs _ (jK c n o x s m v d i q (jY [(3043,4),(3045,5),(3042,6),(3047,7),(3037,8),(3038,9),(3124,10),(3094,11)] (List.replicate 4096 0)) rd out tk) P;refine H.st (arr:=jY [(3043,4),(3045,5),(3042,6),(3047,7),(3037,8),(3038,9),(3124,10),(3094,11)] (List.replicate 4096 0)) .num .num (by exact a _ 3076 (by decide)) ?_;show Wp cx rs _ (jK c n o x s m v d i q (jY [(3043,4),(3045,5),(3042,6),(3047,7),(3037,8),(3038,9),(3124,10),(3094,11),(3076,12)] (List.replicate 4096 0)) rd out tk) P;refine H.st (arr:=jY [(3043,4),(3045,5),(3042,6),(3047,7),(3037,8),(3038,9),(3124,10),(3094,11),(3076,12)] (List.replicate 4096 0)) .num .num (by exact a _ 3082 (by decide)) ?_;show Wp cx rs _ (jK c n o x s m v d i q (jY [(3043,4),(3045,5),(3042,6),(3047,7),(3037,8),(3038,9),(3124,10),(3094,11),(3076,12),(3082,13)] (List.replicate 4096 0)) rd out tk) P;refine H.st (arr:=jY [(3043,4),(3045,5),(3042,6),(3047,7),(3037,8),(3038,9),(3124,10),(3094,11),(3076,12),(3082,13)] (List.replicate 4096 0)) .num .num (by exact a _ 3060 (by decide)) ?_;show Wp cx rs _ (jK c n o x s m v d i q (jY [(3043,4),(3045,5),(3042,6),(3047,7),(3037,8),(3038,9),(3124,10),(3094,11),(3076,12),(3082,13),(3060,14)] (List.replicate 4096 0)) rd out tk) P;refine H.st (arr:=jY [(3043,4),(3045,5),(3042,6),(3047,7),(3037,8),(3038,9),(3124,10),(3094,11),(3076,12),(3082,13),(3060,14)] (List.replicate 4096 0)) .num .num (by exact a _ 3061 (by decide)) ?_;show Wp cx rs _ (jK c n o x s m v d i q (jY [(3043,4),(3045,5),(3042,6),(3047,7),(3037,8),(3038,9),(3124,10),(3094,11),(3076,12),(3082,13),(3060,14),(3061,15)] (List.replicate 4096 0)) rd out tk) P;refine H.st (arr:=jY [(3043,4),(3045,5),(3042,6),(3047,7),(3037,8),(3038,9),(3124,10),(3094,11),(3076,12),(3082,13),(3060,14),(3061,15)] (List.replicate 4096 0)) .num .num (by exact a _ 3033 (by decide)) ?_;show Wp cx rs _ (jK c n o x s m v d i q (jY [(3043,4),(3045,5),(3042,6),(3047,7),(3037,8),(3038,9),(3124,10),(3094,11),(3076,12),(3082,13),(3060,14),(3061,15),(3033,1326579712)] (List.replicate 4096 0)) rd out tk) P;refine H.st (arr:=jY [(3043,4),(3045,5),(3042,6),(3047,7),(3037,8),(3038,9),(3124,10),(3094,11),(3076,12),(3082,13),(3060,14),(3061,15),(3033,1326579712)] (List.replicate 4096 0)) .num .num (by exact a _ 3063 (by decide)) ?_;show Wp cx rs _ (jK c n o x s m v d i q (jY [(3043,4),(3045,5),(3042,6),(3047,7),(3037,8),(3038,9),(3124,10),(3094,11),(3076,12),(3082,13),(3060,14),(3061,15),(3033,1326579712),(3063,1997537280)] (List.replicate 4096 0)) rd out tk) P;refine H.st (arr:=jY [(3043,4),(3045,5),(3042,6),(3047,7),(3037,8),(3038,9),(3124,10),(3094,11),(3076,12),(3082,13),(3060,14),(3061,15),(3033,1326579712),(3063,1997537280)] (List.replicate 4096 0)) .num .num (by exact a _ 3064 (by decide)) ?_;show Wp cx rs _ (jK c n o x s m v d i q (jY [(3043,4),(3045,5),(3042,6),(3047,7),(3037,8),(3038,9),(3124,10),(3094,11),(3076,12),(3082,13),(3060,14),(3061,15),(3033,1326579712),(3063,1997537280),(3064,1343357056)] (List.replicate 4096 0)) rd out tk) P;refine H.st (arr:=jY [(3043,4),(3045,5),(3042,6),(3047,7),(3037,8),(3038,9),(3124,10),(3094,11),(3076,12),(3082,13),(3060,14),(3061,15),(3033,1326579712),(3063,1997537280),(3064,1343357056)] (List.replicate 4096 0)) .num .num (by exact a _ 3035 (by decide)) ?_;show Wp cx rs _ (jK c n o x s m v d i q (jY [(3043,4),(3045,5),(3042,6),(3047,7),(3037,8),(3038,9),(3124,10),(3094,11),(3076,12),(3082,13),(3060,14),(3061,15),(3033,1326579712),(3063,1997537280),(3064,1343357056),(3035,420483072)] (List.replicate 4096 0)) rd out tk) P;refine H.st (arr:=jY [(3043,4),(3045,5),(3042,6),(3047,7),(3037,8),(3038,9),(3124,10),(3094,11),(3076,12),(3082,13),(3060,14),(3061,15),(3033,1326579712),(3063,1997537280),(3064,1343357056),(3035,420483072)] (List.replicate 4096 0)) .num .num (by exact a _ 3046 (by decide)) ?_;show Wp cx rs _ (jK c n o x s m v d i q (jY [(3043,4),(3045,5),(3042,6),(3047,7),(3037,8),(3038,9),(3124,10),(3094,11),(3076,12),(3082,13),(3060,14),(3061,15),(3033,1326579712),(3063,1997537280),(3064,1343357056),(3035,420483072),(3046,941621248)] (List.replicate 4096 0)) rd out tk) P;refine H.st (arr:=jY [(3043,4),(3045,5),(3042,6),(3047,7),(3037,8),(3038,9),(3124,10),(3094,11),(3076,12),(3082,13),(3060,14),(3061,15),(3033,1326579712),(3063,1997537280),(3064,1343357056),(3035,420483072),(3046,941621248)] (List.replicate 4096 0)) .num .num (by exact a _ 3032 (by decide)) ?_;show Wp cx rs _ (jK c n o x s m v d i q (jY [(3043,4),(3045,5),(3042,6),(3047,7),(3037,8),(3038,9),(3124,10),(3094,11),(3076,12),(3082,13),(3060,14),(3061,15),(3033,1326579712),(3063,1997537280),(3064,1343357056),(3035,420483072),(3046,941621248),(3032,1645215744)] (List.replicate 4096 0)) rd out tk) P;refine H.st (arr:=jY [(3043,4),(3045,5),(3042,6),(3047,7),(3037,8),(3038,9),(3124,10),(3094,11),(3076,12),(3082,13),(3060,14),(3061,15),(3033,1326579712),(3063,1997537280),(3064,1343357056),(3035,420483072),(3046,941621248),(3032,1645215744)] (List.replicate 4096 0)) .num .num (by exact a _ 3069 (by decide)) ?_;show Wp cx rs _ (jK c n o x s m v d i q (jY [(3043,4),(3045,5),(3042,6),(3047,7),(3037,8),(3038,9),(3124,10),(3094,11),(3076,12),(3082,13),(3060,14),(3061,15),(3033,1326579712),(3063,1997537280),(3064,1343357056),(3035,420483072),(3046,941621248),(3032,1645215744),(3069,908066816)] (List.replicate 4096 0)) rd out tk) P;refine H.st (arr:=jY [(3043,4),(3045,5),(3042,6),(3047,7),(3037,8),(3038,9),(3124,10),(3094,11),(3076,12),(3082,13),(3060,14),(3061,15),(3033,1326579712),(3063,1997537280),(3064,1343357056),(3035,420483072),(3046,941621248),(3032,1645215744),(3069,908066816)] (List.replicate 4096 0)) .num .num (by exact a _ 3036 (by decide)) ?_;show Wp cx rs _ (jK c n o x s m v d i q (jY [(3043,4),(3045,5),(3042,6),(3047,7),(3037,8),(3038,9),(3124,10),(3094,11),(3076,12),(3082,13),(3060,14),(3061,15),(3033,1326579712),(3063,1997537280),(3064,1343357056),(3035,420483072),(3046,941621248),(3032,1645215744),(3069,908066816),(3036,1509949440)] (List.replicate 4096 0)) rd out tk) P;exact h
theorem XI: ∀c:Nat,c<256→((gX (gX ((c:Int)- 68) *gX ((c:Int)- 73))=0)↔c=68∨c=73):=by decide+kernel
theorem XH (c:Nat) (h:c<256):(gX ((c:Int)- 69)<2)↔c=69∨c=70:=by
 show IntKind.wrap .u32 _<2↔_;rw[IntKind.wrap_u32];omega
def MQ (t:dC) (k:Nat):Int:=match t[k]? with
 |some c=>(c.toNat:Int)
 |none=>256
theorem LZ {cx:Cx} {t:dC} (a:cx.inp=t) {c n o x s m v d i q:Int} {arr:List Int} {rd:Nat} {out:dC} {tk:Nat}:zH cx (jK c n o x s m v d i q arr rd out tk)= .val (MQ t rd) (jK c n o x s m v d i q arr (if rd<t.length then rd+1 else rd) out tk):=by
 unfold zH MQ;rw[a];show(match t[rd]? with |some c=>_|none=>_)=_;by_cases h:rd<t.length
 ·rw[aD h,bP h];rfl
 rw[dM (by omega),aM h]
theorem AH (c:UInt8):c.toNat<256:=c.toNat_lt
theorem G7 {c:UInt8} {k:Nat} (a:k<256):c.toNat=k↔c=UInt8.ofNat k:=by
 constructor
 ·intro h;rw[←h];simp
 intro h;rw[h,UInt8.toNat_ofNat'];omega
theorem TO {cx:Cx} {rs:dC→Bool×Int} (H:oG rs) {t:dC} (a:cx.inp=t) {P:RS→Prop} {l:List Sm} {c n o x s m v d i q:Int} {arr:List Int} {rd:Nat} {out:dC} {tk:Nat} (h:Wp cx rs l (jK (MQ t rd) n o x s m v d i q arr (if rd<t.length then rd+1 else rd) out tk) P):Wp cx rs (.mk 1 [99] [.mk 5 0 0 [] []] [] []::l) (jK c n o x s m v d i q arr rd out tk) P:=
 .get (LZ a) H.c (by decide) (by show(0:Int).toNat<10;decide) h
theorem FI {cx:Cx} {rs:dC→Bool×Int} (H:oG rs) {t:dC} (R:cx.inp=t) (hN:t.length≤2500) (hf:t.length+2<cx.fuel) {P:RS→Prop} {l:List Sm} {T:List Int} {o':Int} (J:xB t ([],0)=some (T,o'))
  (h: ∀o x arr,AT arr T→Wp cx rs l (jK 256 t.length o x 0 0 0 0 0 0 arr t.length [] (t.length+1)) P):
  Wp cx rs (.mk 1 [99] [.mk 5 0 0 [] []] [] []:: .mk 5 [] [.mk 6 14 0 [] [.mk 2 0 0 [99] [], .mk 1 0 256 [] []]] Zy []::l) (jK 0 0 0 0 0 0 0 0 0 0 E3 0 [] 0) P:=by
 refine TO H R ?_;refine Wp.loop (fun k st=> ∃g ok x arr,xB (t.take k) ([],0)=some (g,ok)∧AT arr g∧st=jK (MQ t k) (k:Int) ok x 0 0 0 0 0 0 arr (if k<t.length then k+1 else k) [] (k+1)) t.length (by show 0<cx.fuel;omega) ⟨[],0,0,E3,by simp [xB],MX,rfl⟩ ?_ ?_
 rotate_left
 ·rintro _ ⟨g,ok,x,arr,p,X,rfl⟩
  rw[cZ,J]at p;simp only[Option.some.injEq,Prod.mk.injEq]at p;obtain⟨rfl,rfl⟩:=p;have W:MQ t t.length=256:=by unfold MQ;rw[dM (bE _)]
  rw[W,aM (NG _)];exact⟨(.op H.vc .num (Br _ _)),h _ _ _ X⟩
 rintro k _ S ⟨g,ok,x,arr,p,A,rfl⟩;rw[bP S];obtain⟨c,G⟩: ∃c,t[k]?=some c:=⟨_,aD S⟩;have O:MQ t k=(c.toNat:Int):=by unfold MQ;rw[G]
 have Q:=AH c
 obtain⟨u,D,f⟩: ∃u D,K9 c (g,ok)=some (u,D):=by
  have e:t=t.take k++(c::t.drop (k+1)):=by
   rw[bC]at G;obtain⟨_,rfl⟩:=G;rw[List.getElem_cons_drop,lO]
  rw[e,lL,p]at J;simp only[cA,xB,cH]at J;obtain⟨⟨a,b⟩,Z,_⟩:=J;exact⟨a,b,Z⟩
 have a1:xB (t.take (k+1)) ([],0)=some (u,D):=by
  rw[List.take_add_one,G,Option.toList_some,lL,p];simp only[cA,xB,f]
 have B:g.length=k:=by
  have:=J9 p;rw[dJ]at this;simp at this;omega
 have a2:=A.len;refine⟨_,(.op H.vc .num (Br _ _)),by rw[O,bP (by omega)];decide, ?_⟩;rw[O]
 have C: ∀x E,AT E u→Wp cx rs [.mk 1 [110] [.mk 6 4 0 [] [.mk 2 0 0 [110] [], .mk 1 0 1 [] []]] [] [], .mk 1 [99] [.mk 5 0 0 [] []] [] []] (jK c.toNat k D x 0 0 0 0 0 0 E (k+1) [] (k+1)) (fun V=>V.ticks<cx.fuel∧ ∃g ok x arr,xB (t.take (k+1)) ([],0)=some (g,ok)∧AT arr g∧V.tick=jK (MQ t (k+1)) ((k+1:Nat):Int) ok x 0 0 0 0 0 0 arr (if k+1<t.length then k+1+1 else k+1) [] (k+1+1)):=by
  intro x E Y;refine H.wn (.op H.vn .num (E4 _ _)) ?_;rw[eN (by omega)];refine TO H R (.nil ⟨by show k+1<cx.fuel;omega,u,D,x,E,a1,Y, ?_⟩);rfl
 unfold Zy;have I:((k:Int)).toNat=k:=by simp
 refine H.st H.vn H.vc (by rw[I];omega) ?_;rw[I];unfold K9 at f;simp only at f;have K:(c=68∨c=73)↔(c.toNat=68∨c.toNat=73):=by rw[G7 (by decide),G7 (by decide)];rfl
 have M:(c=69∨c=70)↔(c.toNat=69∨c.toNat=70):=by rw[G7 (by decide),G7 (by decide)];rfl
 have N:=XI c.toNat Q;have L:=XH c.toNat Q;by_cases z:c=68∨c=73
 ·rw[bP z]at f
  simp only[Option.some.injEq,Prod.mk.injEq]at f;obtain⟨rfl,rfl⟩:=f;refine .yes (.op (.op (.op H.vc .num (JK _ _)) (.op H.vc .num (JK _ _)) (RN _ _)) .num (Yb _ _)) (by rw[bP (N.2 (K.1 z))];decide) ?_;refine H.st H.vn H.vo (by rw[I,eE];omega) ?_;refine H.wo H.vn (.nil ?_);refine .no (.op (.op H.vc .num (JK _ _)) .num (Br _ _)) (by rw[aM (fun e=>by have:=L.1 e;have:=K.1 z;omega)]) ?_;rw[I,List.set_set];have j:=A.push (by omega) ok;rw[B]at j;rw[B]at C;exact C _ _ j
 rw[aM z]at f;refine .no (.op (.op (.op H.vc .num (JK _ _)) (.op H.vc .num (JK _ _)) (RN _ _)) .num (Yb _ _)) (by rw[aM (fun e=>z (K.2 (N.1 e)))]) ?_;by_cases F:c=69∨c=70
 ·rw[bP F]at f
  split at f
  ·rename_i h0
   split at f
   ·rename_i y U
    simp only[Option.some.injEq,Prod.mk.injEq]at f;obtain⟨rfl,rfl⟩:=f;have a0:=(bC.1 U).1;refine .yes (.op (.op H.vc .num (JK _ _)) .num (Br _ _)) (by rw[bP (L.2 (M.1 F))];decide) ?_;refine H.wx (H.it H.vo (by rw[gR,aM (by omega),A.eq _ a0,U])) ?_;refine H.st H.vo (.op .num (.op H.vn .num (RN _ _)) (E4 _ _)) (by rw[eE];omega) ?_;refine H.wo H.vx (.nil ?_);rw[eN (x:=(k:Int) *4) (by omega),eN (by omega),show(857735172+(k:Int) *4)=857735172+4 *(g.length:Int)by omega];have j:=A.push (by omega) (c.toNat:Int);rw[B]at j⊢;rw[B]at C;exact C _ _ (j.set (by rw[aB];omega) _)
   cases f
  cases f
 rw[aM F]at f;simp only[Option.some.injEq,Prod.mk.injEq]at f;obtain⟨rfl,rfl⟩:=f;refine .no (.op (.op H.vc .num (JK _ _)) .num (Br _ _)) (by rw[aM (fun e=>F (M.2 (L.1 e)))]) ?_;have j:=A.push (by omega) (c.toNat:Int);rw[B]at j;exact C _ _ j
theorem LS {p:Prop} [Decidable p] {a b:Int} (e:0≤a∧a<4294967296) (f:0≤b∧b<4294967296):0≤(if p then a else b)∧(if p then a else b)<4294967296:=by
 split
 ·exact e
 exact f
theorem PU (c:Int):0≤Zl c∧Zl c<4294967296:=by
 unfold Zl
 repeat (first|refine LS (by decide) ?_|decide)
theorem JS {c:Int} (h:0≤c∧c<4294967296):0≤En c∧En c<4294967296:=by
 unfold En;split
 ·exact PU c
 exact h
theorem JR {c:Int} (h:0≤c∧c<4294967296):0≤zY c∧zY c<4294967296:=by
 unfold zY;split
 ·decide
 exact JS h
theorem JQ {c:Int} (h:0≤c∧c<4294967296):0≤uH c∧uH c<4294967296:=by
 unfold uH;split
 ·exact Yg _
 exact JR h
theorem NJ {c:Int} {z:Zs} (h:0≤z.m∧z.m<4294967296):0≤Tu c z∧Tu c z<4294967296:=by
 unfold Tu;split
 ·exact Yg _
 exact h
theorem SI {c:Int} {z:Zs} (h:0≤z.m∧z.m<4294967296):0≤Ku c z∧Ku c z<4294967296:=by
 unfold Ku;split
 ·decide
 exact NJ h
theorem SH {c:Int} {z:Zs} (h:0≤c∧c<4294967296):0≤G2 c z∧G2 c z<4294967296:=by
 unfold G2;split
 ·exact Yg _
 exact JQ h
theorem SG {c:Int} {z:Zs} (h:0≤c∧c<4294967296):0≤Yu c z∧Yu c z<4294967296:=by
 unfold Yu;split
 ·exact Yg _
 exact SH h
theorem SE {q c:Int} {z:Zs} (h:0≤c∧c<4294967296):0≤Kt q c z∧Kt q c z<4294967296:=by
 unfold Kt;split
 ·exact Yg _
 exact SG h
def PW (arr pend:List Int):Prop:= ∀j,j<pend.length→arr[4004 -pend.length+j]?=pend[j]?
section
variable {cx : Cx} {rs : dC → Bool × Int} {P : RS → Prop} {l : List Sm} {c n o x s m v d i q : Int} {arr : List Int} {rd : Nat} {out : dC} {tk : Nat}
theorem oG.put {e:Ex} {w:Int} (b:PV rs (jK c n o x s m v d i q arr rd out tk) e w) (a:out.length<65536) (h:Wp cx rs l (jK c n o x s m v d i q arr rd (out++[UInt8.ofNat (w % 256).toNat]) tk) P):Wp cx rs (.mk 3 [] [e] [] []::l) (jK c n o x s m v d i q arr rd out tk) P:=by
 refine .put b a ?_;rw[IntKind.wrap_u8];exact h
theorem S8 (H:oG rs) {a:List Int} (z:a.length≤4) (p:PW arr a) (y:out.length≤60000) (u:tk+1+a.length<cx.fuel)
  (h: ∀x,Wp cx rs l (jK c n o x s m v d 4004 q arr rd (out++uP a) (tk+1+a.length)) P):Wp cx rs (.mk 5 [] [.mk 6 14 0 [] [.mk 2 0 0 [105] [], .mk 1 0 4004 [] []]] Ew []::l) (jK c n o x s m v d (4004 -(a.length:Int)) q arr rd out tk) P:=by
 refine Wp.loop (fun j st=> ∃x,st=jK c n o x s m v d (4004 -(a.length:Int)+(j:Int)) q arr rd (out++uP (a.take j)) (tk+1+j)) a.length (by show tk<cx.fuel;omega) ⟨x,by rw[fX,show uP []=[]from rfl,dO,show(4004 -(a.length:Int)+((0:Nat):Int))=4004 -(a.length:Int)by omega];rfl⟩ ?_ ?_
 rotate_left
 ·rintro _ ⟨x,rfl⟩
  refine⟨(by have e:PV rs (jK c n o x s m v d (4004 -(a.length:Int)+(a.length:Int)) q arr rd (out++uP (a.take a.length)) (tk+1+a.length)) (.mk 6 14 0 [] [.mk 2 0 0 [105] [], .mk 1 0 4004 [] []]) _:=(.op H.vi .num (Br _ _));rw[aM (by omega)]at e;exact e), ?_⟩;rw[cZ,show(4004 -(a.length:Int)+(a.length:Int))=4004 by omega];exact h x
 rintro j _ b ⟨x,rfl⟩;refine⟨_,(.op H.vi .num (Br _ _)),by rw[bP (by omega)];decide, ?_⟩;have t:(uP (a.take j)).length≤16:=by rw[Fa,dJ];omega
 have g:=aD b;have k:a.take (j+1)=a.take j++[a[j]]:=bS b;have f:=p j b;rw[g]at f;generalize a[j]=w at *;unfold Ew;refine H.wx (H.it H.vi (by rw[show(4004 -(a.length:Int)+(j:Int)).toNat=4004 -a.length+j by omega];exact f)) ?_;refine oG.put H.vx (by rw[aB];omega) ?_;refine oG.put (.op H.vx .num (RO _)) (by simp only[aB,aJ,aS];omega) ?_;refine oG.put (.op H.vx .num (P1 _)) (by simp only[aB,aJ,aS];omega) ?_;refine oG.put (.op H.vx .num (NA _)) (by simp only[aB,aJ,aS];omega) ?_;refine H.wi (.op H.vi .num (E4 _ _)) (.nil ⟨by show tk+1+j<cx.fuel;omega,w, ?_⟩);rw[eN (by omega),k,Sr];simp only[uP,RB,dO,bQ,cN,dE];rw[show(4004 -(a.length:Int)+(j:Int)+1)=4004 -(a.length:Int)+((j+1:Nat):Int)by omega];rfl
theorem pH {a:List Int} {i j:Nat} {v:Int} (h:i<a.length):(a.set i v)[j]?=if i=j then some v else a[j]?:=by
 rw[gR];by_cases e:i=j
 ·rw[bP e,bP e,bP (e▸h)]
 rw[aM e,aM e]
structure OB (a0 arr:List Int) (w:List Int):Prop where
 len:arr.length=4096
 low: ∀j,j<4000→arr[j]?=a0[j]?
 w: ∀j,j<w.length→arr[4000+j]?=w[j]?
theorem OB.push {b arr w:List Int} (h:OB b arr w) (p:w.length<4) {k:Nat} (f:k=4000+w.length) (x:Int):OB b (arr.set k x) (w++[x]):=by
 have g:=h.len;subst f;refine⟨by rw[eE];exact h.len,fun j a=>?_,fun j a=>?_⟩
 ·rw[pH (by omega),aM (by omega)];exact h.low j a
 rw[aB,bW]at a;rw[pH (by omega)];by_cases e:w.length=j
 ·subst e;simp
 rw[aM (by omega),fB (by omega)];exact h.w j (by omega)
theorem OB.turn {b arr w:List Int} {y:Int} (h:OB b arr (w++[y])) (p:w.length<4) {k:Nat} (f:k=4000+w.length) (x:Int):OB b (arr.set k x) (w++[x]):=by
 have g:=h.len;subst f;refine⟨by rw[eE];exact h.len,fun j a=>?_,fun j a=>?_⟩
 ·rw[pH (by omega),aM (by omega)];exact h.low j a
 rw[aB,bW]at a;rw[pH (by omega)];by_cases e:w.length=j
 ·subst e;simp
 have:=h.w j (by rw[aB,bW];omega);rw[aM (by omega),this,fB (by omega),fB (by omega)]
theorem Zz (H:oG rs) {I:Int} {z:Zs} (O:arr.length=4096) (u:0≤c∧c<4294967296) (M:arr[q.toNat]?=some c) (R: ∀k:Nat,k<256→arr[3000+k]?=some (Zl k)) (Q:0≤z.m∧z.m<4294967296)
  (h: ∀v D,OB arr D (vA q c z)→Wp cx rs l (jK c n o x (Yv c z) (Ku c z) v (zd q c z) 4000 (gX (q+1)) D rd out tk) P):Wp cx rs (zA++l) (jK I n o x z.s z.m v z.d i q arr rd out tk) P:=by
 unfold zA;simp only[cN,dE];refine H.wc (H.it H.vq M) ?_;refine H.wv H.vc ?_;refine .cond (fun g=>g=jK c n o x z.s z.m (En c) z.d i q arr rd out tk) (.op H.vc .num (Br _ _)) (fun a=>?_) (fun a=>?_) ?_
 ·have b:c<256:=by by_cases e:c<256;exact e;rw[aM e]at a;exact absurd rfl a
  have F:=R c.toNat (by omega);have J:gX (c+3000)=c+3000:=eN (by omega);have K:((c.toNat:Nat):Int)=c:=by omega
  rw[K]at F;refine H.wv (H.it (.op H.vc .num (E4 _ _)) (by rw[J,show(c+3000).toNat=3000+c.toNat by omega];exact F)) (.nil ?_);rw[En,bP b]
 ·have b: ¬c<256:=fun e=>by rw[bP e]at a;exact absurd a (by decide)
  rw[En,aM b]
 rintro _ rfl;have T:=JS u;refine .cond (fun g=>g=jK c n o x z.s z.m (zY c) z.d i q arr rd out tk) (.op H.vv .num (Yb _ _)) (fun a=>?_) (fun a=>?_) ?_
 ·have b:En c=0:=by by_cases e:En c=0;exact e;rw[aM e]at a;exact absurd rfl a
  refine H.wv .num (.nil ?_);rw[zY,bP b]
 ·have b: ¬En c=0:=fun e=>by rw[bP e]at a;exact absurd a (by decide)
  rw[zY,aM b]
 rintro _ rfl;have U:=JR u;refine .cond (fun g=>g=jK c n o x z.s z.m (uH c) z.d i q arr rd out tk) (.op H.vv .num (Br _ _)) (fun a=>?_) (fun a=>?_) ?_
 ·have b:zY c<16:=by by_cases e:zY c<16;exact e;rw[aM e]at a;exact absurd rfl a
  refine H.wv (.op (.op H.vv .num (RN _ _)) .num (E4 _ _)) (.nil ?_);rw[uH,bP b]
 ·have b: ¬zY c<16:=fun e=>by rw[bP e]at a;exact absurd a (by decide)
  rw[uH,aM b]
 rintro _ rfl;have V:=JQ u;have L:(4000:Int).toNat=4000:=rfl;have B:(4001:Int).toNat=4001:=rfl;have E:(4002:Int).toNat=4002:=rfl;have C:(4003:Int).toNat=4003:=rfl;refine H.st .num (.op .num H.vd (E4 _ _)) (by rw[L];omega) ?_;refine H.st .num (.op .num H.vd (E4 _ _)) (by rw[B,eE];omega) ?_;have f:OB arr ((arr.set (4000:Int).toNat (gX (270532609+z.d))).set (4001:Int).toNat (gX (269484032+z.d))) [gX (270532609+z.d),gX (269484032+z.d)]:=((⟨O,fun _ _=>rfl,fun j N=>by simp at N⟩:OB arr arr []).push (by simp) rfl _).push (by simp) rfl _;generalize(arr.set (4000:Int).toNat (gX (270532609+z.d))).set (4001:Int).toNat (gX (269484032+z.d))=y at *;refine .cond (fun g=>g=jK c n o x z.s (Tu c z) (uH c) z.d i q y rd out tk) (.op (.op H.vc .num (JK _ _)) .num (Br _ _)) (fun a=>?_) (fun a=>?_) ?_
 ·have b:gX (c- 48)<10:=by by_cases e:gX (c- 48)<10;exact e;rw[aM e]at a;exact absurd rfl a
  refine H.wm (.op (.op H.vm .num (RN _ _)) (.op H.vc .num (JK _ _)) (E4 _ _)) (.nil ?_);rw[Tu,bP b]
 ·have b: ¬gX (c- 48)<10:=fun e=>by rw[bP e]at a;exact absurd a (by decide)
  rw[Tu,aM b]
 rintro _ rfl;have W:=NJ (c:=c) Q;refine .cond (fun g=> ∃p,g=jK c n o x z.s (Ku c z) (G2 c z) z.d i q p rd out tk∧OB arr p [gX (270532609+z.d),Z4 c z]) (.op H.vc .num (Yb _ _)) (fun a=>?_) (fun a=>?_) ?_
 ·have b:c=32:=by by_cases e:c=32;exact e;rw[aM e]at a;exact absurd rfl a
  refine H.st .num (.op .num (.op H.vm .num (RL (by omega))) (E4 _ _)) (by rw[B];have:=f.len;omega) ?_;refine H.wv (.op H.vv (.op H.vm .num (P1 _)) (E4 _ _)) ?_;refine H.wm .num (.nil ⟨y.set (4001:Int).toNat (gX (17825792+Tu c z % 65536)), ?_, ?_⟩)
  ·rw[G2,Ku,bP b,bP b]
  rw[Z4,bP b];exact OB.turn (w:=[gX (270532609+z.d)]) f (by simp) rfl _
 ·have b: ¬c=32:=fun e=>by rw[bP e]at a;exact absurd a (by decide)
  refine⟨y, ?_, ?_⟩
  ·rw[G2,Ku,aM b,aM b]
  rw[Z4,aM b];exact f
 rintro _ ⟨p,rfl,f⟩;refine .cond (fun g=>g=jK c n o x (Y8 c z) (Ku c z) (Yu c z) z.d i q p rd out tk) (.op (.op H.vc .num (JK _ _)) .num (Br _ _)) (fun a=>?_) (fun a=>?_) ?_
 ·have b:gX (c- 97)<26:=by by_cases e:gX (c- 97)<26;exact e;rw[aM e]at a;exact absurd rfl a
  refine H.wv (.op H.vs H.vc (E4 _ _)) ?_;refine H.ws .num (.nil ?_);rw[Yu,Y8,bP b,bP b]
 ·have b: ¬gX (c- 97)<26:=fun e=>by rw[bP e]at a;exact absurd a (by decide)
  rw[Yu,Y8,aM b,aM b]
 rintro _ rfl;refine .cond (fun g=>g=jK c n o x (Yv c z) (Ku c z) (Yu c z) z.d i q p rd out tk) (.op H.vc .num (Yb _ _)) (fun a=>?_) (fun a=>?_) ?_
 ·have b:c=58:=by by_cases e:c=58;exact e;rw[aM e]at a;exact absurd rfl a
  refine H.ws .num (.nil ?_);rw[Yv,bP b]
 ·have b: ¬c=58:=fun e=>by rw[bP e]at a;exact absurd a (by decide)
  rw[Yv,aM b]
 rintro _ rfl;refine .cond (fun g=> ∃t,g=jK c n o x (Yv c z) (Ku c z) (Yu c z) z.d i q t rd out tk∧OB arr t [gX (270532609+z.d),P3 c z]) (.op H.vc .num (Yb _ _)) (fun a=>?_) (fun a=>?_) ?_
 ·have b:c=64:=by by_cases e:c=64;exact e;rw[aM e]at a;exact absurd rfl a
  refine H.st .num .num (by rw[B];have:=f.len;omega) (.nil ⟨_,rfl, ?_⟩);rw[P3,bP b];exact OB.turn (w:=[gX (270532609+z.d)]) f (by simp) rfl _
 ·have b: ¬c=64:=fun e=>by rw[bP e]at a;exact absurd a (by decide)
  refine⟨p,rfl, ?_⟩;rw[P3,aM b];exact f
 rintro _ ⟨t,rfl,f⟩;refine .cond (fun g=>g=jK c n o x (Yv c z) (Ku c z) (Kt q c z) z.d i q t rd out tk) (.op H.vc .num (Yb _ _)) (fun a=>?_) (fun a=>?_) ?_
 ·have b:c=87:=by by_cases e:c=87;exact e;rw[aM e]at a;exact absurd rfl a
  refine H.wv (.op .num (.op H.vq .num (RN _ _)) (E4 _ _)) (.nil ?_);rw[Kt,bP b]
 ·have b: ¬c=87:=fun e=>by rw[bP e]at a;exact absurd a (by decide)
  rw[Kt,aM b]
 rintro _ rfl;have X:=SE (q:=q) (z:=z) u;refine H.st .num (.op H.vv .num (RJ (by omega))) (by rw[E];have:=f.len;omega) ?_;have f:=f.push (by simp) (k:=4002) rfl (Kt q c z % 536870912);rw[E];refine H.wd (.op (.op H.vd (.op H.vv .num (MZ _)) (E4 _ _)) .num (JK _ _)) ?_;refine H.st .num (.op .num H.vd (E4 _ _)) (by rw[C];have:=f.len;omega) ?_;have f:=f.push (by simp) (k:=4003) rfl (gX (286261249+zd q c z));rw[C];have S:gX (gX (z.d+Kt q c z/536870912)- 2)=zd q c z:=rfl;rw[S];generalize((t.set 4002 (Kt q c z % 536870912)).set 4003 (gX (286261249+zd q c z)))=G at *;refine .cond (fun g=> ∃A,g=jK c n o x (Yv c z) (Ku c z) (Kt q c z) (zd q c z) i q A rd out tk∧OB arr A (vA q c z)) (.op H.vc .num (Yb _ _)) (fun a=>?_) (fun a=>?_) ?_
 ·have b:c=35:=by by_cases e:c=35;exact e;rw[aM e]at a;exact absurd rfl a
  refine H.st .num .num (by rw[C];have:=f.len;omega) (.nil ⟨_,rfl, ?_⟩);rw[vA,Z3,bP b];exact OB.turn (w:=[gX (270532609+z.d),P3 c z,Kt q c z % 536870912]) f (by simp) rfl _
 ·have b: ¬c=35:=fun e=>by rw[bP e]at a;exact absurd a (by decide)
  refine⟨G,rfl, ?_⟩;rw[vA,Z3,aM b];exact f
 rintro _ ⟨A,rfl,f⟩;refine H.wi .num ?_;refine H.wq (.op H.vq .num (E4 _ _)) ?_;exact h _ _ f
end
end Go.Al
namespace Go.Proofs.YtaecpjgmcffliaaGreatDoor
open Go.Al Go.Proofs.Tryz
theorem HE {g:Type} {T:List fQ} (i:Sz T) {w c:Bool} {n b:Nat} {a:fQ} {k:Int} (d:kF c b (PR.ok a b)=kF w n (jS T k n)) {G:Int→PR g} {f:PR g} (h:kF c b (G a.num)=f):kF c b (G (IntKind.wrap .i64 a.num))=f:=by
 cases c with
 |true=>exact h
 |false=>
  cases w with
  |true=>cases d
  |false=>
   rw[mU,mU]at d;have j:=jX d.symm;have e:=(i.tok _ (aW j.2.2.1)).1;rw[aT _ (by have:=e.1;have:=e.2;omega)];exact h
def Cm (T:List fQ) (vs:List dC) (ar:List Ar) (fs:List Fu) (m:Nat):PR Pg:=(HW T m).bind fun g m=>(Hv T (fs++[g]) m).bind fun fs m=> .ok ⟨vs,ar,fs⟩ m
theorem I9 (T:List fQ) (vs:List dC) (a:List Ar) (m:Nat):Nz T (vs,a) m=(eZ T yQ m).bind fun _ m=>Cm T vs a [] m:=by
 unfold Nz;rw[HY,lN];simp only[Cm,dE]
theorem HV (T:List fQ) (vs:List dC) (b:List Ar) (a:List Fu) (m:Nat) (h:m<T.length):((Hv T a m).bind fun a m=>(.ok ⟨vs,b,a⟩ m:PR Pg))=(eZ T yQ m).bind fun _ m=>Cm T vs b a m:=by
 rw[Hu,bP h,HY,lN,lN];simp only[Cm]
theorem V0 (F:Nat) {T:List fQ} (hT:Sz T) (n:Nat) (w:Bool) (hn:n≤T.length):pG 65 [] F T n w WY (kF w n (Da T n)):=by
 unfold pG;generalize p:kF w n (Da T n)=c1;rw[FP]at p;have w1:=hT.len;have d:=lT F T n w;refine bX 78 [.cell 2 26] func65 ?_;refine aA fun K I=>?_;simp only[RR,seval];refine aQ fun y c0=>?_;have a4:=dG c0 d;have d4:=a4.symm;simp only[RR,seval];refine I _ _ (aA fun K I=>?_);simp only[RR,seval];refine aQ fun z g7=>?_;have a5:z≠F:=fun e=>by rw[e]at g7;simp only[d,d4,RR,seval,reduceCtorEq]at g7
 have a8:=a5.symm;have q8:z≠y:=fun e=>by rw[e]at g7;simp only[RR,seval,reduceCtorEq]at g7
 have a3:=q8.symm;simp only[RR,seval];refine I _ _ (aI (bT fun F1 M1 o j=>?_));have u:=o 0;have A:=o 2;have B:=o 3;have C:=j F;have f:=j y;have g:=j z;simp only[d,d4,a8,a3,RR,seval]at u A B C f g;have d:=C;refine aN (iP [0,2,3] (T.length-n) (fun k fr M=>M y=M1 y∧(∃(m:Nat) (V:Bool) (vs:List dC) (U:List Ar) (v1 v2:AV),k=T.length-m∧n≤m∧m≤T.length∧vs.length≤1000001 *(m+1)∧U.length≤m∧kF V m ((Dj T vs U m).bind (Nz T))=c1∧dW 1 v1 (vs.map bH) M∧dW 2 v2 (U.map Ar.row) M∧M z=some (.rows 3 [[v1,v2, .nsl]])∧M F=some (.rows 3 [[.isl 4 (T.map fQ.row), .int .i64 (m:Nat), .bool V]]))) ⟨rfl,n,w,[],[], .nsl, .nsl,rfl,bE _,hn,cM _,cM _,p, .inl ⟨rfl,rfl⟩, .inl ⟨rfl,rfl⟩,g,d⟩ ?_);rintro k F2 M2 ⟨i,m,V,vs,U,v1,v2,rfl,j9,hm,w7,u6,p,H,D,g,d⟩ a7 K0 j5;have u:=(a7 0 rfl).trans u;have A:=(a7 2 rfl).trans A;have B:=(a7 3 rfl).trans B;have f:=i.trans f;have a9:=bB.refl [0,2,3] F2;have Q:=i;clear a7;have Z:=H.offsz g (by decide);have g8:=D.offsz g (by decide);have w5:=H.one1;have u7:=H.cells;have w6:=D.one1;have u8:=D.cells;refine aI (aA fun K I=>?_);simp only[u,d,RR,seval];refine I _ _ (aX ?_ ?_)<;>intro hc
 ·have j0:=hc;clear hc
  rw[HN]at p;simp only[zN,lN,PR.bind_ok]at p;refine aL ?_;simp only[RR];refine aN (aI (aA fun K I=>?_));simp only[u,RR,seval];refine gD (jL F hT m V hm Q1 (by decide)) d trivial fun M3 p4 f8=>?_;have i:=f8 y _ a4 f;have Q:=(i.trans f.symm).trans Q;have t:=f8 z _ a5 g;have f:=i;have g:=t;have H:=dW.kp H d (by decide) f8;have D:=dW.kp D d (by decide) f8;have d:=p4;simp only[RR,seval];refine I _ _ (aX ?_ ?_)<;>intro d8
  ·have p:=qW d8 p
   rw[bP d8]at d;have w2:=jC d8 (by decide);refine bT fun F4 M4 o j=>?_;have J:=o 0;have L:=o 2;have N:=o 3;have i:=j y;have C:=j F;have t:=j z;simp only[u,A,B,f,d,g,RR,seval]at J L N i C t;have a9:bB [0,2,3] F2 F4:=bB.same o (by repeat (first|exact a9|refine bB.upd rfl ?_));have Q:=(j y).trans Q;have H:=H.same j;have D:=D.same j;have u:=J;have A:=L;have B:=N;have f:=i;have d:=C;have g:=t;refine aC fun K I=>?_;refine bF (fun x=>x≠z∧x≠y) [(0,3),(1,0),(2,3),(3,1),(4,1),(5,3)] [(6,1)] eP (by kernel_rfl) rfl rfl ?_;simp only[*,eM,gL,RR,seval];refine O6 (vO F hT (m+1) V (by omega)) d (by trivial) fun j4 q4 r2 M5 n8 v0 o6 u9 p5 f9=>?_;have p:=cY p n8;have i:=f9 y _ a4 f;have Q:=(i.trans f.symm).trans Q;have t:=f9 z _ a5 g;have f:=i;have g:=t;have H:=dW.kp H d (by decide) f9;have D:=dW.kp D d (by decide) f9;have d:=p5;simp only[strs,Gy,RR,seval];refine jA H (by simp only[aE];omega) (fun b e=>by(repeat' apply And.intro)<;>(intro c;subst c;first|exact Z _ _ e|exact H.nb' f (by decide) e)) fun v4 M6 c3 a2 c2=>?_;have b1:=c2 z Z (by rw[g];exact bY _);simp only[B,RR,seval];have i:=a2 y _ f (by exact(H).nb' f (by decide));have Q:=(i.trans f.symm).trans Q;have f:=i;have C:=a2 F _ d (by exact(H).nb' d (by decide));have d:=C;have t:=a2 z _ g (by exact(H).nb' g (by decide));have g:=t;have c5:=c3.cells;have d0:=c3.one1;simp only[c5,d0,cA,List.drop,g,RR,seval];apply I;have D:=D.app2 H (by decide) a2;refine bT fun F7 M7 o j=>?_;have J:=o 0;have L:=o 2;have N:=o 3;have i:=j y;have C:=j F;have g:=j z;simp only[u,A,B,f,d,a8,a3,RR,seval]at J L N i C g;have a9:bB [0,2,3] F2 F7:=bB.same o (by repeat (first|exact a9|refine bB.upd rfl ?_));have Q:=(j y).trans (by(simp only[a3,aV,seval];exact Q));have c3:=(c3.off b1 _).same j;have D:=(D.off g8 _).same j;have u:=J;have A:=L;have B:=N;have f:=i;have d:=C;refine aA fun K I=>?_;simp only[u,RR,seval];refine dL (fH F hT q4 r2 o6 [59] (by decide)) d trivial fun u2 j1 k6 M8 n9 v5 j7 p6 g1=>?_;have p:=cY p n9;have i:=g1 y _ a4 f;have Q:=(i.trans f.symm).trans Q;have t:=g1 z _ a5 g;have f:=i;have g:=t;have c3:=dW.kp c3 d (by decide) g1;have D:=dW.kp D d (by decide) g1;have d:=p6;simp only[RR,seval];apply I;obtain⟨mz,p3⟩: ∃mz:Nat,mz=j1:=⟨_,rfl⟩;refine cC ?_;simp only[RR,seval];refine j5 (T.length-mz) _ _ (by omega) ⟨Q, ?_⟩ (by repeat (first|exact a9|refine bB.upd rfl ?_))
   first
    |(refine⟨j1,k6,vs++j4,U,_,v2, ?_, ?_,j7, ?_, ?_, ?_, ?_,D,g,d⟩;omega;omega;(simp only[aB];omega);omega;exact p;(rw[cK];exact c3))
    |(refine⟨j3,k8,vs,U++[⟨h5.text,IntKind.wrap .i64 h6.num⟩],v1,_, ?_, ?_,j8, ?_, ?_, ?_,H.off k0 _, ?_,bG _ _ _, ?_⟩;omega;omega;omega;(simp only[aB,aJ,aS];omega);exact p;(rw[cK];exact g9.off b1 _);(simp only[*,aE,strs,VN,Gy,aV,RR,seval];done))
  have p:=qX d8 p;rw[aM (dF.1 d8)]at d;refine aL ?_;simp only[RR];refine aI (aA fun K I=>?_);simp only[u,RR,seval];refine gD (jL F hT m V hm Zd (by decide)) d trivial fun M9 p7 g5=>?_;have i:=g5 y _ a4 f;have Q:=(i.trans f.symm).trans Q;have t:=g5 z _ a5 g;have f:=i;have g:=t;have H:=dW.kp H d (by decide) g5;have D:=dW.kp D d (by decide) g5;have d:=p7;simp only[RR,seval];refine I _ _ (aX ?_ ?_)<;>intro d9
  ·have p:=qW d9 p
   rw[bP d9]at d;have w3:=jC d9 (by decide);refine bT fun k9 s0 o j=>?_;have J:=o 0;have L:=o 2;have N:=o 3;have i:=j y;have C:=j F;have t:=j z;simp only[u,A,B,f,d,g,RR,seval]at J L N i C t;have a9:bB [0,2,3] F2 k9:=bB.same o (by repeat (first|exact a9|refine bB.upd rfl ?_));have Q:=(j y).trans Q;have H:=H.same j;have D:=D.same j;have u:=J;have A:=L;have B:=N;have f:=i;have d:=C;have g:=t;refine aA fun K I=>?_;simp only[u,RR,seval];refine dL (nX F hT (m+1) V (by omega) 1 (by decide)) d trivial fun h5 q5 r3 s1 o0 v6 o7 p8 g6=>?_;have p:=cY p o0;have i:=g6 y _ a4 f;have Q:=(i.trans f.symm).trans Q;have t:=g6 z _ a5 g;have f:=i;have g:=t;have H:=dW.kp H d (by decide) g6;have D:=dW.kp D d (by decide) g6;have d:=p8;simp only[RR,seval];refine aQ fun b4 e7=>?_;have q9:=dG e7 f;have h1:=q9.symm;have f1:=dG e7 d;have k5:=f1.symm;have r1:=dG e7 g;have k2:=r1.symm;simp only[RR,seval];apply I;have i9:=H.offnone e7;have e8:=D.offnone e7;refine bT fun l0 s2 o j=>?_;have J:=o 0;have L:=o 2;have N:=o 3;have f4:=o 4;have i:=j y;have C:=j F;have t:=j z;have a6:=j b4;simp only[u,A,B,f,d,g,h1,k5,k2,RR,seval]at J L N f4 i C t a6;have a9:bB [0,2,3] F2 l0:=bB.same o (by repeat (first|exact a9|refine bB.upd rfl ?_));have Q:=(j y).trans (by(simp only[h1,aV,seval];exact Q));have H:=((H.off i9 _).off i9 _).same j;have D:=((D.off e8 _).off e8 _).same j;have u:=J;have A:=L;have B:=N;have f:=i;have d:=C;have g:=t;refine aA fun K I=>?_;simp only[u,RR,seval];refine dL (fH F hT q5 r3 o7 [91] (by decide)) d trivial fun u3 q6 r4 s3 o1 v7 o8 p9 e0=>?_;have p:=cY p o1;have i:=e0 y _ a4 f;have Q:=(i.trans f.symm).trans Q;have t:=e0 z _ a5 g;have b7:=e0 b4 _ f1 a6;have f:=i;have g:=t;have a6:=b7;have H:=dW.kp H d (by decide) e0;have D:=dW.kp D d (by decide) e0;have d:=p9;simp only[RR,seval];refine I _ _ (aA fun K I=>?_);simp only[u,RR,seval];refine dL (nX F hT q6 r4 o8 2 (by decide)) d trivial fun h6 j2 k7 s4 j6 v8 o9 q0 e1=>?_;have p:=cY p j6;have i:=e1 y _ a4 f;have Q:=(i.trans f.symm).trans Q;have t:=e1 z _ a5 g;have b7:=e1 b4 _ f1 a6;have f:=i;have g:=t;have a6:=b7;have H:=dW.kp H d (by decide) e1;have D:=dW.kp D d (by decide) e1;have d:=q0;simp only[RR,seval];apply I;obtain⟨G,hG⟩: ∃G:Int→PR Pg,G=fun x=>(eZ T [93] j2).bind fun _ m=>(eZ T [59] m).bind fun _ m=>(Dj T vs (U++[⟨h5.text,x⟩]) m).bind (Nz T):=⟨_,rfl⟩;have p:kF k7 j2 (G h6.num)=c1:=by rw[hG];exact p
   have p:=HE (G:=G) hT j6 p;rw[hG]at p;dsimp only at p;refine aA fun K I=>?_;simp only[u,RR,seval];refine dL (fH F hT j2 k7 o9 [93] (by decide)) d trivial fun u4 q7 r5 s5 o2 v9 p0 q1 e2=>?_;have p:=cY p o2;have i:=e2 y _ a4 f;have Q:=(i.trans f.symm).trans Q;have t:=e2 z _ a5 g;have b7:=e2 b4 _ f1 a6;have f:=i;have g:=t;have a6:=b7;have H:=dW.kp H d (by decide) e2;have D:=dW.kp D d (by decide) e2;have d:=q1;simp only[RR,seval];refine I _ _ (aA fun K I=>?_);simp only[u,RR,seval];refine dL (fH F hT q7 r5 p0 [59] (by decide)) d trivial fun u5 j3 k8 s6 o3 w0 j8 q2 e3=>?_;have p:=cY p o3;have i:=e3 y _ a4 f;have Q:=(i.trans f.symm).trans Q;have t:=e3 z _ a5 g;have b7:=e3 b4 _ f1 a6;have f:=i;have g:=t;have a6:=b7;have H:=dW.kp H d (by decide) e3;have D:=dW.kp D d (by decide) e3;have d:=q2;simp only[RR,seval];apply I;obtain⟨mz,p3⟩: ∃mz:Nat,mz=j3:=⟨_,rfl⟩;refine aA fun K I=>?_;simp only[f4,a6,RR,seval];refine I _ _ (bT fun l1 s7 o j=>?_);have J:=o 0;have L:=o 2;have N:=o 3;have g4:=o 4;have f5:=o 5;have i:=j y;have C:=j F;have t:=j z;have a6:=j b4;simp only[u,A,B,f4,f,d,g,h1,k5,k2,RR,seval]at J L N g4 f5 i C t a6;have a9:bB [0,2,3] F2 l1:=bB.same o (by repeat (first|exact a9|refine bB.upd rfl ?_));have Q:=(j y).trans (by(simp only[h1,aV,seval];exact Q));have H:=(H.off i9 _).same j;have D:=(D.off e8 _).same j;have k0:=Z;have Z:=g8;have u:=J;have A:=L;have B:=N;have f4:=g4;have f:=i;have d:=C;have g:=t;refine aA fun K I=>?_;simp only[*,RR,seval];refine dK ?_;simp only[RR,seval];refine jA D (by simp only[aE,aJ,aS];omega) (fun b e=>by trivial) fun w8 s8 g9 a2 c2=>?_;have b1:=c2 z Z (by rw[g];exact bY _);have w4:=c2 b4 e8 (by rw[a6];exact bY _);simp only[B,RR,seval];have i:=a2 y _ f (by exact(D).nb' f (by decide));have Q:=(i.trans f.symm).trans Q;have f:=i;have C:=a2 F _ d (by exact(D).nb' d (by decide));have d:=C;have t:=a2 z _ g (by exact(D).nb' g (by decide));have g:=t;have b7:=a2 b4 _ a6 (e8 _ _);have a6:=b7;have c5:=g9.cells;have d0:=g9.one1;simp only[c5,d0,cA,List.drop,g,RR,seval];apply I;have H:=H.app2 D (by decide) a2;refine cC ?_;simp only[RR,seval];refine j5 (T.length-mz) _ _ (by omega) ⟨(by(simp only[a3,aV,seval];exact Q)), ?_⟩ (by repeat (first|exact a9|refine bB.upd rfl ?_))
   first
    |(refine⟨j1,k6,vs++j4,U,_,v2, ?_, ?_,j7, ?_, ?_, ?_, ?_,D,g,d⟩;omega;omega;(simp only[aB];omega);omega;exact p;(rw[cK];exact c3))
    |(refine⟨j3,k8,vs,U++[⟨h5.text,IntKind.wrap .i64 h6.num⟩],v1,_, ?_, ?_,j8, ?_, ?_, ?_,H.off k0 _, ?_,bG _ _ _, ?_⟩;omega;omega;omega;(simp only[aB,aJ,aS];omega);exact p;(rw[cK];exact g9.off b1 _);(simp only[d,a8,aV,seval];done))
  have p:=qX d9 p;rw[aM (dF.1 d9)]at d;refine aL ?_;simp only[RR];refine cC ?_;simp only[RR,seval];refine bT fun r6 m4 o j=>?_;have J:=o 0;have L:=o 2;have N:=o 3;have i:=j y;have C:=j F;have t:=j z;simp only[u,A,B,f,d,g,RR,seval]at J L N i C t;have H:=H.same j;have D:=D.same j;have u:=J;have A:=L;have B:=N;have f:=i;have d:=C;have g:=t;rw[I9]at p;have X:m4 z=some (.rows 3 [[]++v1::[v2, .nsl]]):=g;refine gW H X (fun x l=>by cases l) (fun x l=>by simp only[bK,bM,dB]at l;rcases l with rfl|rfl;exact J6 H D (by decide);exact bU rfl) Z fun m0 d7 P Y R=>?_;have u:=(P 0 (by rw[u];exact bU rfl)).trans u;have A:=(P 2 (by rw[A];exact bU rfl)).trans A;have B:=(P 3 (by rw[B];exact bU rfl)).trans B;have d:=R F _ _ a8 (H.offsz d (by decide)) (fun r O x l=>by simp only[bA]at O;subst O;simp only[bK,bM,dB]at l;rcases l with rfl|rfl|rfl<;>exact bU rfl) d;have f:=R y _ _ a3 (H.offsz f (by decide)) (fun r O x l=>by simp only[bA]at O;subst O;simp only[bK,bM,dB]at l;rcases l with rfl|rfl|rfl<;>exact bU rfl) f;have D:=D.thru H (by decide) g (by decide) (Wu _) R;have g:d7 z=some (.rows 3 [[.isl 1 (vs.map bH),v2, .nsl]]):=Y;clear Y X P R;have X:d7 z=some (.rows 3 [[.isl 1 (vs.map bH)]++v2::[.nsl]]):=g;refine gW D X (fun x l=>by simp only[bK,bM,dB]at l;rcases l with rfl;exact bU rfl) (fun x l=>by simp only[bK,bM,dB]at l;rcases l with rfl;exact bU rfl) g8 fun m1 h2 P Y R=>?_;have u:=(P 0 (by rw[u];exact bU rfl)).trans u;have A:=(P 2 (by rw[A];exact bU rfl)).trans A;have B:=(P 3 (by rw[B];exact bU rfl)).trans B;have d:=R F _ _ a8 (D.offsz d (by decide)) (fun r O x l=>by simp only[bA]at O;subst O;simp only[bK,bM,dB]at l;rcases l with rfl|rfl|rfl<;>exact bU rfl) d;have f:=R y _ _ a3 (D.offsz f (by decide)) (fun r O x l=>by simp only[bA]at O;subst O;simp only[bK,bM,dB]at l;rcases l with rfl|rfl|rfl<;>exact bU rfl) f;have g:h2 z=some (.rows 3 [[.isl 1 (vs.map bH), .isl 2 (U.map Ar.row), .nsl]]):=Y;clear Y X P R;have Z:Al.off AV.nsl z:=fun _ _ h=>by cases h
  refine aA fun K I=>?_;simp only[u,RR,seval];refine dL (fH F hT m V hm yQ (by decide)) d trivial fun n5 e9 f7 s9 i1 o4 i5 i6 e4=>?_;have p:=cY p i1;have i:=e4 y _ a4 f;have t:=e4 z _ a5 g;have f:=i;have g:=t;have d:=i6;simp only[RR,seval];refine I _ _ (bT fun r7 m5 o j=>?_);have J:=o 0;have L:=o 2;have N:=o 3;have i:=j y;have C:=j F;have t:=j z;simp only[u,A,B,f,d,g,RR,seval]at J L N i C t;have u:=J;have A:=L;have B:=N;have f:=i;have d:=C;have g:=t;refine aN (iP [0,2,3] (Lj T e9 f7) (fun k fr M=>M y=m5 y∧(∃(m:Nat) (V:Bool) (W:List Fu) (v:AV),k=Lj T m V∧n≤m∧m≤T.length∧W.length≤m+1∧(V=false→W.length≤m)∧kF V m (Cm T vs U W m)=c1∧dW 5 v (W.map Fu.row) M∧M z=some (.rows 3 [[.isl 1 (vs.map bH), .isl 2 (U.map Ar.row),v]])∧M F=some (.rows 3 [[.isl 4 (T.map fQ.row), .int .i64 (m:Nat), .bool V]]))) ⟨rfl,e9,f7,[], .nsl,rfl,by omega,i5,cM _,fun _=>cM _,p, .inl ⟨rfl,rfl⟩,g,d⟩ ?_);rintro k d5 t0 ⟨i,m,V,W,v3,rfl,j9,hm,h8,h9,p,E,g,d⟩ a7 K2 h7;have u:=(a7 0 rfl).trans u;have A:=(a7 2 rfl).trans A;have B:=(a7 3 rfl).trans B;have f:=i.trans f;have a0:=bB.refl [0,2,3] d5;have S:=i;clear a7;have Z:=E.offsz g (by decide);have q3:=E.one1;have n7:=E.cells;refine aN (aI (aA fun K I=>?_));simp only[u,d,RR,seval];refine I _ _ (aX ?_ ?_)<;>intro c4
  ·have p:kF V m (PR.ok (⟨vs,U,W⟩:Pg) m)=c1:=by rw[c4]at p⊢;exact p
   obtain⟨n2,c9⟩: ∃n2:Nat,n2=m:=⟨_,rfl⟩;rw[←c9]at p d;have c8:n≤n2:=by omega
   have c0:n2≤T.length:=by omega
   refine bT fun l2 m6 o j=>?_;have J:=o 0;have L:=o 2;have N:=o 3;have i:=j y;have C:=j F;have t:=j z;simp only[u,A,B,f,d,g,RR,seval]at J L N i C t;have a0:bB [0,2,3] d5 l2:=bB.same o (by repeat (first|exact a0|refine bB.upd rfl ?_));have S:=(j y).trans S;have E:=E.same j;have u:=J;have A:=L;have B:=N;have f:=i;have d:=C;have g:=t;have X:m6 z=some (.rows 3 [[.isl 1 (vs.map bH), .isl 2 (U.map Ar.row)]++v3::[]]):=g;refine gW E X (fun x l=>by simp only[bK,bM,dB]at l;rcases l with rfl|rfl<;>exact bU rfl) (fun x l=>by cases l) Z fun m2 h3 P Y R=>?_;have A:=(P 2 (by rw[A];exact bU rfl)).trans A;have B:=(P 3 (by rw[B];exact bU rfl)).trans B;have d:=R F _ _ a8 (E.offsz d (by decide)) (fun r O x l=>by simp only[bA]at O;subst O;simp only[bK,bM,dB]at l;rcases l with rfl|rfl|rfl<;>exact bU rfl) d;have f:=R y _ _ a3 (E.offsz f (by decide)) (fun r O x l=>by simp only[bA]at O;subst O;simp only[bK,bM,dB]at l;rcases l with rfl|rfl|rfl<;>exact bU rfl) f;have g:h3 z=some (.rows 3 [[.isl 1 (vs.map bH), .isl 2 (U.map Ar.row), .isl 5 (W.map Fu.row)]]):=Y;clear Y X P R;refine aA fun K I=>?_;simp only[*,RR,seval];apply I;refine aO ?_;simp only[aY,aK,bR,A,RR,seval];refine iG (by(simp only[d,d4,aV,seval];done)) p ?_ c8 c0;exact iR.refl _
  unfold Cm at p;have h8:=h9 c4;refine aL ?_;simp only[RR];refine bT fun l3 t1 o j=>?_;have J:=o 0;have L:=o 2;have N:=o 3;have i:=j y;have C:=j F;have t:=j z;simp only[u,A,B,f,d,g,RR,seval]at J L N i C t;have a0:bB [0,2,3] d5 l3:=bB.same o (by repeat (first|exact a0|refine bB.upd rfl ?_));have S:=(j y).trans S;have E:=E.same j;have u:=J;have A:=L;have B:=N;have f:=i;have d:=C;have g:=t;refine aC fun K I=>?_;refine bF (fun x=>x≠z∧x≠y) [(0,3),(1,0),(2,3),(3,1),(4,2),(5,1),(6,3)] [(7,1)] eP (by kernel_rfl) rfl rfl ?_;simp only[*,eM,gL,RR,seval];refine dL (Wi F hT m V hm) d (by trivial) fun b6 a1 b0 t2 i2 o5 e5 i7 c6=>?_;have p:=cY p i2;have i:=c6 y _ a4 f;have S:=(i.trans f.symm).trans S;have t:=c6 z _ a5 g;have f:=i;have g:=t;have E:=dW.kp E d (by decide) c6;have d:=i7;simp only[VN,RR,seval];refine jA E (by simp only[aE,aJ,aS];omega) (fun b e=>by(repeat' apply And.intro)<;>(intro c;subst c;first|exact Z _ _ e|exact E.nb' f (by decide) e)) fun f6 t3 d1 a2 c2=>?_;have b1:=c2 z Z (by rw[g];exact bY _);simp only[B,RR,seval];have i:=a2 y _ f (by exact(E).nb' f (by decide));have S:=(i.trans f.symm).trans S;have f:=i;have C:=a2 F _ d (by exact(E).nb' d (by decide));have d:=C;have t:=a2 z _ g (by exact(E).nb' g (by decide));have g:=t;have c5:=d1.cells;have d0:=d1.one1;simp only[c5,d0,cA,List.drop,g,RR,seval];refine I _ _ (aI (bT fun l4 m7 o j=>?_));have J:=o 0;have L:=o 2;have N:=o 3;have i:=j y;have C:=j F;have g:=j z;simp only[u,A,B,f,d,a8,a3,RR,seval]at J L N i C g;have a0:bB [0,2,3] d5 l4:=bB.same o (by repeat (first|exact a0|refine bB.upd rfl ?_));have S:=(j y).trans (by(simp only[a3,aV,seval];exact S));have E:dW 5 f6 ((W++[b6]).map Fu.row) m7:=by rw[cK];exact(d1.off b1 _).same j
  have Z:=b1;have u:=J;have A:=L;have B:=N;have f:=i;have d:=C;refine aC fun K I=>?_;refine bF (fun x=>x≠y∧x≠F∧x≠z) [(0,3),(1,3),(2,3),(3,1),(4,3),(5,3),(6,3),(7,3),(8,1),(9,3),(10,3),(11,3),(12,1),(13,3),(14,3),(15,3)] [] eP (by kernel_rfl) rfl rfl ?_;simp only[eM,u,d,RR,seval]
  repeat' ((refine cQ (fun h=>?_) (fun h=>?_))<;>simp only[h,u,d,aE,RR,seval])
  all_goals
   refine I _ _ (aX ?_ ?_)<;>intro b8
   ·try (cases b8;done)
    all_goals
     have hq:b0=true∨ ¬a1<T.length:=by first|exact .inl h|exact .inr (by have:=aF b8;omega)
     have p:kF b0 a1 (PR.ok (⟨vs,U,W++[b6]⟩:Pg) a1)=c1:=by
      rcases hq with e|e
      ·rw[e]at p⊢;exact p
      rw[Hu,aM e,PR.bind_ok]at p;exact p
     obtain⟨n2,c9⟩: ∃n2:Nat,n2=a1:=⟨_,rfl⟩;rw[←c9]at p d;have c8:n≤n2:=by omega
     have c0:n2≤T.length:=by omega
     refine bT fun l5 m8 o j=>?_;have J:=o 0;have L:=o 2;have N:=o 3;have i:=j y;have C:=j F;have t:=j z;simp only[u,A,B,f,d,g,RR,seval]at J L N i C t;have a0:bB [0,2,3] d5 l5:=bB.same o (by repeat (first|exact a0|refine bB.upd rfl ?_));have S:=(j y).trans S;have E:=E.same j;have u:=J;have A:=L;have B:=N;have f:=i;have d:=C;have g:=t;have X:m8 z=some (.rows 3 [[.isl 1 (vs.map bH), .isl 2 (U.map Ar.row)]++f6::[]]):=g;refine gW E X (fun x l=>by simp only[bK,bM,dB]at l;rcases l with rfl|rfl<;>exact bU rfl) (fun x l=>by cases l) Z fun m3 h4 P Y R=>?_;have A:=(P 2 (by rw[A];exact bU rfl)).trans A;have B:=(P 3 (by rw[B];exact bU rfl)).trans B;have d:=R F _ _ a8 (E.offsz d (by decide)) (fun r O x l=>by simp only[bA]at O;subst O;simp only[bK,bM,dB]at l;rcases l with rfl|rfl|rfl<;>exact bU rfl) d;have f:=R y _ _ a3 (E.offsz f (by decide)) (fun r O x l=>by simp only[bA]at O;subst O;simp only[bK,bM,dB]at l;rcases l with rfl|rfl|rfl<;>exact bU rfl) f;have g:h4 z=some (.rows 3 [[.isl 1 (vs.map bH), .isl 2 (U.map Ar.row), .isl 5 ((W++[b6]).map Fu.row)]]):=Y;clear Y X P R;refine aA fun K I=>?_;simp only[*,RR,seval];apply I;refine aO ?_;simp only[aY,aK,bR,A,RR,seval];refine iG (by(simp only[d,d4,aV,seval];done)) p ?_ c8 c0;exact iR.refl _
   try (cases b8;done)
   all_goals
    have b5:b0=false:=by simpa using h
    have i4:a1<T.length:=by have:=aH b8;omega
    rw[HV T vs U _ a1 i4]at p;refine aL ?_;simp only[RR];refine aG ?_;simp only[u,RR,seval];refine dL (fH F hT a1 b0 e5 yQ (by decide)) d trivial fun n6 d2 d3 t4 b9 i3 e6 i8 c7=>?_;have p:=cY p b9;have i:=c7 y _ a4 f;have S:=(i.trans f.symm).trans S;have t:=c7 z _ a5 g;have f:=i;have g:=t;have E:=dW.kp E d (by decide) c7;have d:=i8;simp only[RR,seval];have p1:=Qz b5 e5 e6 i3 b9 fun a m' h=>by have:=fC h (by decide);omega
    have p2:Lj T a1 b0≤Lj T m V:=by rw[b5,c4];unfold Lj;simp;omega
    have i0:d3=false→a1<d2:=fun e=>by
     rw[e,b5,mU,mU]at b9;have:=fC b9.symm (by decide);omega
    refine h7 (Lj T d2 d3) _ _ (by omega) ⟨S,d2,d3,W++[b6],_,rfl,by omega,e6,by simp only[aB,aJ,aS];omega,fun e=>by have:=i0 e;simp only[aB,aJ,aS];omega,p,E,g,d⟩ (by repeat (first|exact a0|refine bB.upd rfl ?_))
 have j0:=hc;have b5:V=true:=by simpa using j0
 have p:kF V m (Nz T (vs,U) m)=c1:=by subst b5;exact p
 clear b5 j0;refine cC ?_;simp only[RR,seval];refine bT fun r8 m9 o j=>?_;have J:=o 0;have L:=o 2;have N:=o 3;have i:=j y;have C:=j F;have t:=j z;simp only[u,A,B,f,d,g,RR,seval]at J L N i C t;have H:=H.same j;have D:=D.same j;have u:=J;have A:=L;have B:=N;have f:=i;have d:=C;have g:=t;rw[I9]at p;have X:m9 z=some (.rows 3 [[]++v1::[v2, .nsl]]):=g;refine gW H X (fun x l=>by cases l) (fun x l=>by simp only[bK,bM,dB]at l;rcases l with rfl|rfl;exact J6 H D (by decide);exact bU rfl) Z fun m0 d7 P Y R=>?_;have u:=(P 0 (by rw[u];exact bU rfl)).trans u;have A:=(P 2 (by rw[A];exact bU rfl)).trans A;have B:=(P 3 (by rw[B];exact bU rfl)).trans B;have d:=R F _ _ a8 (H.offsz d (by decide)) (fun r O x l=>by simp only[bA]at O;subst O;simp only[bK,bM,dB]at l;rcases l with rfl|rfl|rfl<;>exact bU rfl) d;have f:=R y _ _ a3 (H.offsz f (by decide)) (fun r O x l=>by simp only[bA]at O;subst O;simp only[bK,bM,dB]at l;rcases l with rfl|rfl|rfl<;>exact bU rfl) f;have D:=D.thru H (by decide) g (by decide) (Wu _) R;have g:d7 z=some (.rows 3 [[.isl 1 (vs.map bH),v2, .nsl]]):=Y;clear Y X P R;have X:d7 z=some (.rows 3 [[.isl 1 (vs.map bH)]++v2::[.nsl]]):=g;refine gW D X (fun x l=>by simp only[bK,bM,dB]at l;rcases l with rfl;exact bU rfl) (fun x l=>by simp only[bK,bM,dB]at l;rcases l with rfl;exact bU rfl) g8 fun m1 h2 P Y R=>?_;have u:=(P 0 (by rw[u];exact bU rfl)).trans u;have A:=(P 2 (by rw[A];exact bU rfl)).trans A;have B:=(P 3 (by rw[B];exact bU rfl)).trans B;have d:=R F _ _ a8 (D.offsz d (by decide)) (fun r O x l=>by simp only[bA]at O;subst O;simp only[bK,bM,dB]at l;rcases l with rfl|rfl|rfl<;>exact bU rfl) d;have f:=R y _ _ a3 (D.offsz f (by decide)) (fun r O x l=>by simp only[bA]at O;subst O;simp only[bK,bM,dB]at l;rcases l with rfl|rfl|rfl<;>exact bU rfl) f;have g:h2 z=some (.rows 3 [[.isl 1 (vs.map bH), .isl 2 (U.map Ar.row), .nsl]]):=Y;clear Y X P R;have Z:Al.off AV.nsl z:=fun _ _ h=>by cases h
 refine aA fun K I=>?_;simp only[u,RR,seval];refine dL (fH F hT m V hm yQ (by decide)) d trivial fun n5 e9 f7 t5 i1 o4 i5 i6 e4=>?_;have p:=cY p i1;have i:=e4 y _ a4 f;have t:=e4 z _ a5 g;have f:=i;have g:=t;have d:=i6;simp only[RR,seval];refine I _ _ (bT fun r9 n0 o j=>?_);have J:=o 0;have L:=o 2;have N:=o 3;have i:=j y;have C:=j F;have t:=j z;simp only[u,A,B,f,d,g,RR,seval]at J L N i C t;have u:=J;have A:=L;have B:=N;have f:=i;have d:=C;have g:=t;refine aN (iP [0,2,3] (Lj T e9 f7) (fun k fr M=>M y=n0 y∧(∃(m:Nat) (V:Bool) (W:List Fu) (v:AV),k=Lj T m V∧n≤m∧m≤T.length∧W.length≤m+1∧(V=false→W.length≤m)∧kF V m (Cm T vs U W m)=c1∧dW 5 v (W.map Fu.row) M∧M z=some (.rows 3 [[.isl 1 (vs.map bH), .isl 2 (U.map Ar.row),v]])∧M F=some (.rows 3 [[.isl 4 (T.map fQ.row), .int .i64 (m:Nat), .bool V]]))) ⟨rfl,e9,f7,[], .nsl,rfl,by omega,i5,cM _,fun _=>cM _,p, .inl ⟨rfl,rfl⟩,g,d⟩ ?_);rintro k d6 t6 ⟨i,m,V,W,v3,rfl,j9,hm,h8,h9,p,E,g,d⟩ a7 K2 h7;have u:=(a7 0 rfl).trans u;have A:=(a7 2 rfl).trans A;have B:=(a7 3 rfl).trans B;have f:=i.trans f;have a0:=bB.refl [0,2,3] d6;have S:=i;clear a7;have Z:=E.offsz g (by decide);have q3:=E.one1;have n7:=E.cells;refine aN (aI (aA fun K I=>?_));simp only[u,d,RR,seval];refine I _ _ (aX ?_ ?_)<;>intro c4
 ·have p:kF V m (PR.ok (⟨vs,U,W⟩:Pg) m)=c1:=by rw[c4]at p⊢;exact p
  obtain⟨n2,c9⟩: ∃n2:Nat,n2=m:=⟨_,rfl⟩;rw[←c9]at p d;have c8:n≤n2:=by omega
  have c0:n2≤T.length:=by omega
  refine bT fun l6 n1 o j=>?_;have J:=o 0;have L:=o 2;have N:=o 3;have i:=j y;have C:=j F;have t:=j z;simp only[u,A,B,f,d,g,RR,seval]at J L N i C t;have a0:bB [0,2,3] d6 l6:=bB.same o (by repeat (first|exact a0|refine bB.upd rfl ?_));have S:=(j y).trans S;have E:=E.same j;have u:=J;have A:=L;have B:=N;have f:=i;have d:=C;have g:=t;have X:n1 z=some (.rows 3 [[.isl 1 (vs.map bH), .isl 2 (U.map Ar.row)]++v3::[]]):=g;refine gW E X (fun x l=>by simp only[bK,bM,dB]at l;rcases l with rfl|rfl<;>exact bU rfl) (fun x l=>by cases l) Z fun m2 h3 P Y R=>?_;have A:=(P 2 (by rw[A];exact bU rfl)).trans A;have B:=(P 3 (by rw[B];exact bU rfl)).trans B;have d:=R F _ _ a8 (E.offsz d (by decide)) (fun r O x l=>by simp only[bA]at O;subst O;simp only[bK,bM,dB]at l;rcases l with rfl|rfl|rfl<;>exact bU rfl) d;have f:=R y _ _ a3 (E.offsz f (by decide)) (fun r O x l=>by simp only[bA]at O;subst O;simp only[bK,bM,dB]at l;rcases l with rfl|rfl|rfl<;>exact bU rfl) f;have g:h3 z=some (.rows 3 [[.isl 1 (vs.map bH), .isl 2 (U.map Ar.row), .isl 5 (W.map Fu.row)]]):=Y;clear Y X P R;refine aA fun K I=>?_;simp only[*,RR,seval];apply I;refine aO ?_;simp only[aY,aK,bR,A,RR,seval];refine iG (by(simp only[d,d4,aV,seval];done)) p ?_ c8 c0;exact iR.refl _
 unfold Cm at p;have h8:=h9 c4;refine aL ?_;simp only[RR];refine bT fun l7 t7 o j=>?_;have J:=o 0;have L:=o 2;have N:=o 3;have i:=j y;have C:=j F;have t:=j z;simp only[u,A,B,f,d,g,RR,seval]at J L N i C t;have a0:bB [0,2,3] d6 l7:=bB.same o (by repeat (first|exact a0|refine bB.upd rfl ?_));have S:=(j y).trans S;have E:=E.same j;have u:=J;have A:=L;have B:=N;have f:=i;have d:=C;have g:=t;refine aC fun K I=>?_;refine bF (fun x=>x≠z∧x≠y) [(0,3),(1,0),(2,3),(3,1),(4,2),(5,1),(6,3)] [(7,1)] eP (by kernel_rfl) rfl rfl ?_;simp only[*,eM,gL,RR,seval];refine dL (Wi F hT m V hm) d (by trivial) fun b6 a1 b0 t8 i2 o5 e5 i7 c6=>?_;have p:=cY p i2;have i:=c6 y _ a4 f;have S:=(i.trans f.symm).trans S;have t:=c6 z _ a5 g;have f:=i;have g:=t;have E:=dW.kp E d (by decide) c6;have d:=i7;simp only[VN,RR,seval];refine jA E (by simp only[aE,aJ,aS];omega) (fun b e=>by(repeat' apply And.intro)<;>(intro c;subst c;first|exact Z _ _ e|exact E.nb' f (by decide) e)) fun f6 t9 d1 a2 c2=>?_;have b1:=c2 z Z (by rw[g];exact bY _);simp only[B,RR,seval];have i:=a2 y _ f (by exact(E).nb' f (by decide));have S:=(i.trans f.symm).trans S;have f:=i;have C:=a2 F _ d (by exact(E).nb' d (by decide));have d:=C;have t:=a2 z _ g (by exact(E).nb' g (by decide));have g:=t;have c5:=d1.cells;have d0:=d1.one1;simp only[c5,d0,cA,List.drop,g,RR,seval];refine I _ _ (aI (bT fun l8 n3 o j=>?_));have J:=o 0;have L:=o 2;have N:=o 3;have i:=j y;have C:=j F;have g:=j z;simp only[u,A,B,f,d,a8,a3,RR,seval]at J L N i C g;have a0:bB [0,2,3] d6 l8:=bB.same o (by repeat (first|exact a0|refine bB.upd rfl ?_));have S:=(j y).trans (by(simp only[a3,aV,seval];exact S));have E:dW 5 f6 ((W++[b6]).map Fu.row) n3:=by rw[cK];exact(d1.off b1 _).same j
 have Z:=b1;have u:=J;have A:=L;have B:=N;have f:=i;have d:=C;refine aC fun K I=>?_;refine bF (fun x=>x≠y∧x≠F∧x≠z) [(0,3),(1,3),(2,3),(3,1),(4,3),(5,3),(6,3),(7,3),(8,1),(9,3),(10,3),(11,3),(12,1),(13,3),(14,3),(15,3)] [] eP (by kernel_rfl) rfl rfl ?_;simp only[eM,u,d,RR,seval]
 repeat' ((refine cQ (fun h=>?_) (fun h=>?_))<;>simp only[h,u,d,aE,RR,seval])
 all_goals
  refine I _ _ (aX ?_ ?_)<;>intro b8
  ·try (cases b8;done)
   all_goals
    have hq:b0=true∨ ¬a1<T.length:=by first|exact .inl h|exact .inr (by have:=aF b8;omega)
    have p:kF b0 a1 (PR.ok (⟨vs,U,W++[b6]⟩:Pg) a1)=c1:=by
     rcases hq with e|e
     ·rw[e]at p⊢;exact p
     rw[Hu,aM e,PR.bind_ok]at p;exact p
    obtain⟨n2,c9⟩: ∃n2:Nat,n2=a1:=⟨_,rfl⟩;rw[←c9]at p d;have c8:n≤n2:=by omega
    have c0:n2≤T.length:=by omega
    refine bT fun l9 n4 o j=>?_;have J:=o 0;have L:=o 2;have N:=o 3;have i:=j y;have C:=j F;have t:=j z;simp only[u,A,B,f,d,g,RR,seval]at J L N i C t;have a0:bB [0,2,3] d6 l9:=bB.same o (by repeat (first|exact a0|refine bB.upd rfl ?_));have S:=(j y).trans S;have E:=E.same j;have u:=J;have A:=L;have B:=N;have f:=i;have d:=C;have g:=t;have X:n4 z=some (.rows 3 [[.isl 1 (vs.map bH), .isl 2 (U.map Ar.row)]++f6::[]]):=g;refine gW E X (fun x l=>by simp only[bK,bM,dB]at l;rcases l with rfl|rfl<;>exact bU rfl) (fun x l=>by cases l) Z fun m3 h4 P Y R=>?_;have A:=(P 2 (by rw[A];exact bU rfl)).trans A;have B:=(P 3 (by rw[B];exact bU rfl)).trans B;have d:=R F _ _ a8 (E.offsz d (by decide)) (fun r O x l=>by simp only[bA]at O;subst O;simp only[bK,bM,dB]at l;rcases l with rfl|rfl|rfl<;>exact bU rfl) d;have f:=R y _ _ a3 (E.offsz f (by decide)) (fun r O x l=>by simp only[bA]at O;subst O;simp only[bK,bM,dB]at l;rcases l with rfl|rfl|rfl<;>exact bU rfl) f;have g:h4 z=some (.rows 3 [[.isl 1 (vs.map bH), .isl 2 (U.map Ar.row), .isl 5 ((W++[b6]).map Fu.row)]]):=Y;clear Y X P R;refine aA fun K I=>?_;simp only[*,RR,seval];apply I;refine aO ?_;simp only[aY,aK,bR,A,RR,seval];refine iG (by(simp only[d,d4,aV,seval];done)) p ?_ c8 c0;exact iR.refl _
  try (cases b8;done)
  all_goals
   have b5:b0=false:=by simpa using h
   have i4:a1<T.length:=by have:=aH b8;omega
   rw[HV T vs U _ a1 i4]at p;refine aL ?_;simp only[RR];refine aG ?_;simp only[u,RR,seval];refine dL (fH F hT a1 b0 e5 yQ (by decide)) d trivial fun n6 d2 d3 u1 b9 i3 e6 i8 c7=>?_;have p:=cY p b9;have i:=c7 y _ a4 f;have S:=(i.trans f.symm).trans S;have t:=c7 z _ a5 g;have f:=i;have g:=t;have E:=dW.kp E d (by decide) c7;have d:=i8;simp only[RR,seval];have p1:=Qz b5 e5 e6 i3 b9 fun a m' h=>by have:=fC h (by decide);omega
   have p2:Lj T a1 b0≤Lj T m V:=by rw[b5,c4];unfold Lj;simp;omega
   have i0:d3=false→a1<d2:=fun e=>by
    rw[e,b5,mU,mU]at b9;have:=fC b9.symm (by decide);omega
   refine h7 (Lj T d2 d3) _ _ (by omega) ⟨S,d2,d3,W++[b6],_,rfl,by omega,e6,by simp only[aB,aJ,aS];omega,fun e=>by have:=i0 e;simp only[aB,aJ,aS];omega,p,E,g,d⟩ (by repeat (first|exact a0|refine bB.upd rfl ?_))
theorem B2 (c:Nat) (T:List fQ) (n:Nat) (w:Bool) (j:n≤T.length) (s:dC):Lt 66 [.str s] c T n w (.int .i64 (PH T s.length n)) n w:=by
 unfold Lt;have b:=lT c T n w;by_cases f:n<T.length
 ·have d:=aD f
  generalize T[n]=t at d;have g:=LY d;have hd:decide ((n:Int)<(T.length:Int))=true:=cO (by omega);have e:PH T s.length n=(t.pos:Int):=by simp [PH,d]
  rw[e];refine bX 28 [.tmp 4] func66 ?_;refine aA fun K a=>?_;simp only[RR,seval];refine a _ _ (aI (aC fun K a=>?_));refine bF (fun x=>x≠c) [(0,3),(1,3),(2,3),(3,1),(4,3),(5,3),(6,3),(7,1),(8,3),(9,3)] [] eP (by kernel_rfl) rfl rfl ?_;simp only[eM,b,aE,hd,RR,seval];refine a _ _ (aX ?_ ?_)<;>intro i
  ·refine aC fun K a=>?_
   refine bF (fun x=>x≠c) [(0,3),(1,3),(2,3),(3,1),(4,3),(5,3),(6,3),(7,1),(8,3),(9,3),(10,1),(11,3)] [] eP (by kernel_rfl) rfl rfl ?_;simp only[eM,b,g,RR,seval];apply a;refine aO ?_;simp only[aY,aK,bR,RR,seval];refine nQ b ?_;rfl
  refine aL ?_;try simp only[RR]
  refine aA fun K a=>?_;simp only[RR,seval];apply a;refine aO ?_;simp only[aY,aK,bR,RR,seval];refine nQ b ?_;simp_all
 have hd:decide ((n:Int)<(T.length:Int))=false:=bD (by omega);have e:PH T s.length n=(s.length:Int):=by simp [PH,dM (Nat.le_of_not_lt f)]
 rw[e];refine bX 28 [.tmp 4] func66 ?_;refine aA fun K a=>?_;simp only[RR,seval];refine a _ _ (aI (aC fun K a=>?_));refine bF (fun x=>x≠c) [(0,3),(1,3),(2,3),(3,1),(4,3),(5,3),(6,3),(7,1),(8,3),(9,3)] [] eP (by kernel_rfl) rfl rfl ?_;simp only[eM,b,aE,hd,RR,seval];refine a _ _ (bN ?_);refine aL ?_;simp only[RR];refine aA fun K a=>?_;simp only[RR,seval];apply a;refine aO ?_;simp only[aY,aK,bR,RR,seval];refine nQ b ?_;rfl
theorem Ny (s:dC) (L:s.length≤1000000):eH dN 38 [.str s] (Zw (Zq s)):=by
 generalize b:Zq s=Z;unfold Zq at b;have y:Al.iR (.agg [.nsl, .nsl, .nsl]) QC.av:=iR.agg LA
 cases hl:Az s with
 |error x=>
  obtain⟨i,e⟩:=x;rw[hl]at b;simp only at b;subst b;have u:=FH L hl;have P:=GU hl;have hd:decide (e=0)=false:=bD P;refine bX 48 [.cell 2 26, .tmp 3, .tmp 4] func38 ?_;refine aA fun K a=>?_;simp only[RR,seval];refine aQ fun l U=>?_;simp only[RR,seval];refine a _ _ (aA fun K a=>?_);simp only[RR,seval];refine aP (u) ?_;simp only[RR,seval];refine a _ _ (aI (aA fun K a=>?_));simp only[hd,RR,seval];refine a _ _ (cL (aA fun K a=>?_));simp only[RR,seval];apply a;refine aO ?_;simp only[aY,aK,bR,RR,seval];refine⟨Zw _,pX,(lC.sub ?_).trans (lC.drop (qY _)),rfl,rfl⟩;exact iR.tup (fJ.cons y (fJ.refl _))
 |ok T=>
  rw[hl]at b;simp only at b;have u:=KY L hl;have E:=LL hl;refine bX 48 [.cell 2 26, .tmp 3, .tmp 4] func38 ?_;refine aA fun K a=>?_;simp only[RR,seval];refine aQ fun l U=>?_;simp only[RR,seval];refine a _ _ (aA fun K a=>?_);simp only[RR,seval];refine aP (u) ?_;simp only[RR,seval];refine a _ _ (aI (aA fun K a=>?_));simp only[RR,seval];refine a _ _ (bN ?_);refine aL ?_;simp only[RR];refine aA fun K a=>?_;simp only[RR,seval];refine aQ fun t H=>?_;have X:t≠l:=fun e=>by rw[e]at H;simp only[RR,seval,reduceCtorEq]at H
  have A:=X.symm;simp only[RR,seval];refine a _ _ (aA fun K a=>?_);simp only[RR,seval];refine dL (V0 t E 0 false (cM _)) (by(simp only[aV,RR,seval];done)) trivial fun p o C M1 c a1 S V R=>?_;rw[mU]at c;have d:=R l _ A (by(simp only[A,aV,seval];rfl));have g:=V;simp only[WY,RR,seval];refine aQ fun N I=>?_;have Y:=dG I d;have B:=Y.symm;have M:=dG I g;have z:=M.symm;simp only[RR,seval];refine a _ _ (aI (aA fun K a=>?_));simp only[g,z,RR,seval]
  repeat' ((refine cQ (fun h=>?_) (fun h=>?_))<;>simp only[h,g,z,aE,RR,seval])
  all_goals
   refine a _ _ (aX ?_ ?_)<;>intro n
   ·try (cases n;done)
    all_goals
     have j:Z=(QC,PH T s.length o,3):=by
      cases k:C with
      |true=>rw[k,EO]at c;rw[←c]at b;exact b.symm
      |false=>
       rw[k,mU]at c;rw[←c]at b
       have v:o<T.length:=by
        first
        |(rw[k]at h;cases h;done)
        |(have:=aF n;omega)
       simp only[bP v]at b;exact b.symm
     subst j;refine aA fun K a=>?_;simp only[RR,seval];refine gD (B2 t T o C S s) (by(simp only[g,z,aV,seval];done)) trivial fun M2 W G=>?_;have O:=G l _ A (by(simp only[d,B,aV,seval];rfl));have a0:=G N _ M (bG _ _ _);have d:=O;have g:=W;simp only[d,RR,seval];apply a;refine aO ?_;simp only[aY,aK,bR,RR,seval];refine⟨Zw _,pX,(lC.sub ?_).trans (lC.drop (qY _)),rfl,rfl⟩;exact iR.tup (fJ.cons y (fJ.refl _))
   try (cases n;done)
   all_goals
    have k:C=false:=by simpa using h
    have v: ¬o<T.length:=by have:=aH n;omega
    rw[k,mU]at c;rw[←c]at b;simp only[aM v]at b;have J:=FO E (cM _) c.symm;have D:=Y3 p J.1 fun f Q=>by have:=(J.2 f Q).1;omega
    rw[Pg.av,Pg.row]at D;refine aL ?_;simp only[RR];refine aI (aA fun K a=>?_);simp only[RR,seval];refine aP (D) ?_;simp only[RR,seval];refine a _ _ (aX ?_ ?_)<;>intro F
    ·have j: ¬fV p=true:=by simpa using F
     rw[aM j]at b;subst b;refine aA fun K a=>?_;simp only[d,B,RR,seval];apply a;refine aO ?_;simp only[aY,aK,bR,RR,seval];refine⟨Zw _,pX,(lC.sub ?_).trans (lC.drop (qY _)),rfl,rfl⟩;exact iR.tup (fJ.cons y (fJ.refl _))
    have j:fV p=true:=by simpa using F
    rw[bP j]at b;subst b;refine aL ?_;simp only[RR];refine aA fun K a=>?_;simp only[d,B,RR,seval];apply a;refine aO ?_;simp only[aY,aK,bR,RR,seval];refine⟨Zw _,pX,(lC.sub ?_).trans (lC.drop (qY _)),rfl,rfl⟩;exact iR.refl _
def WI (s:dC):Option Pg:=match Az s with
 | .error _=>none
 | .ok T=>match Da T 0 with
   | .bad _=>none
   | .ok e m=>if m<T.length then none else some e
theorem I1 {s:dC} {e:Pg} (h:WI s=some e) (a:fV e=true):Zq s=(e,0,0):=by
 unfold WI at h;unfold Zq
 cases hl:Az s with
 |error x=>rw[hl]at h;cases h
 |ok T=>
  rw[hl]at h;simp only at h⊢
  cases hp:Da T 0 with
  |bad m=>rw[hp]at h;cases h
  |ok x m=>
   rw[hp]at h;simp only at h⊢;by_cases c:m<T.length
   ·rw[bP c]at h;cases h
   rw[aM c]at h⊢;cases h;rw[bP a]
def qB:Fu:=⟨[109,97,105,110],[],[],false,[.mk 1 [97] [.mk 5 0 0 [] []] [] [], .mk 5 [] [.mk 6 14 0 [] [.mk 2 0 0 [97] [], .mk 1 0 256 [] []]] [.mk 3 [] [.mk 2 0 0 [97] []] [] [], .mk 1 [97] [.mk 5 0 0 [] []] [] []] []]⟩
def iL:Pg:=⟨[[97]],[],[qB]⟩
def IP:dC:=[118,97,114,32,97,59,32,102,117,110,99,32,109,97,105,110,40,41,32,123,32,97,32,61,32,103,101,116,40,41,59,32,119,104,105,108,101,32,40,97,32,60,32,50,53,54,41,32,123,32,112,117,116,40,97,41,59,32,97,32,61,32,103,101,116,40,41,59,32,125,32,125]
theorem I7:fV iL=true:=by
 simp only[fV,kY,iL,qB,dT,gN,pN,tL,kW,pO,nT,kV,Ex.kids,Sm.es,Sm.thn,Sm.els]
 decide+kernel
theorem TL:Zq IP=(iL,0,0):=I1 (by kernel_rfl) I7
theorem Ic:iL.few:=by
 have b:Ae ([]:List Ex):=⟨by simp [eV],by simp⟩;have a:xH ([]:List Sm):=⟨by simp [eV],by simp⟩;have c: ∀{e:Ex},e.ok→Ae [e]:=fun h=>⟨by simp [eV],by simpa using h⟩;have j:(Ex.mk 5 0 0 [] []).ok:= .mk _ _ _ _ _ (by simp [iK]) (by simp [iK]) (by simp [eB]) (by simp [eV]) b.fit b.all;have d:(Ex.mk 2 0 0 [97] []).ok:= .mk _ _ _ _ _ (by simp [iK]) (by simp [iK]) (by simp [eB]) (by simp [eV]) b.fit b.all;have i:(Ex.mk 1 0 256 [] []).ok:= .mk _ _ _ _ _ (by simp [iK]) (by simp [iK]) (by simp [eB]) (by simp [eV]) b.fit b.all;have k:(Ex.mk 6 14 0 [] [.mk 2 0 0 [97] [], .mk 1 0 256 [] []]).ok:= .mk _ _ _ _ _ (by simp [iK]) (by simp [iK]) (by simp [eB]) (by simp [eV]) (by simp [eV]) (by simp [d,i]);have g:(Sm.mk 1 [97] [.mk 5 0 0 [] []] [] []).ok:= .mk _ _ _ _ _ (by simp [iK]) (by simp [eV]) (c j) a.fit a.all a.fit a.all;have m:(Sm.mk 3 [] [.mk 2 0 0 [97] []] [] []).ok:= .mk _ _ _ _ _ (by simp [iK]) (by simp [eV]) (c d) a.fit a.all a.fit a.all;have n:(Sm.mk 5 [] [.mk 6 14 0 [] [.mk 2 0 0 [97] [], .mk 1 0 256 [] []]] [.mk 3 [] [.mk 2 0 0 [97] []] [] [], .mk 1 [97] [.mk 5 0 0 [] []] [] []] []).ok:= .mk _ _ _ _ _ (by simp [iK]) (by simp [eV]) (c k) (by simp [eV]) (by simp [m,g]) a.fit a.all;have l:qB.ok:=⟨by simp [eV,qB],⟨by simp [eV,qB],by simp [qB]⟩,⟨by simp [eV,qB],by simp [qB]⟩,⟨by simp [eV,qB],by simp [qB,g,n]⟩⟩;refine⟨⟨⟨by simp [eV,iL],by simp [eV,iL]⟩,by simp [eV,iL],by simp [iL],by simp [eV,iL],by simpa [iL]using l⟩,by simp [iL],by simp [iL],by simp [iL],fun f h=>?_⟩;simp only[iL,bA]at h;subst h;refine⟨by simp [qB],by simp [qB], ?_⟩;show mQ [_,_]≤_;simp [mQ,Sm.sz,pM,Ex.sz]
theorem I2:iE iL=0:=by
 simp only[iE,fV,kY,iL,qB,dT,gN,pN,tL,kW,pO,nT,kV,kL,kB,qS,iZ,jF,mR,lG,dY,fE,Ex.kids,Sm.es,Sm.thn,Sm.els]
 decide+kernel
theorem I5:gZ (fun l=>l.all yA) iL=true:=by
 unfold gZ;rw[I2];simp only[iL,qB,dT,gN,An,Sm.kind,Sm.es,Sm.thn,Sm.els,Bm,Ex.kind,Ex.kids]
 decide+kernel
theorem QY:Lib.decDigits 256=[50,53,54]:=by simp [Lib.decDigits]
theorem OQ:iS qB.body=[63,58,97,87,97,50,53,54,32,60,68,97,46,63,58,97,69]:=by
 simp [qB,iS,nW,hY,gK,iD,QY,opS]
theorem VX:G9 iL=([63,58,97,87,97,50,53,54,32,60,68,97,46,63,58,97,69,36],0):=by
 unfold G9;rw[bP I5];simp only[iL,OQ];rfl
def zP:Pg:=⟨[],[],[]⟩
theorem VW:G9 zP=([],1):=by
 have :gZ (fun l=>l.all yA) zP=false:=by simp [gZ,zP]
 unfold G9;rw[aM (by rw[this];decide)]
theorem VS:zP.ok:=⟨⟨by simp [eV,zP],by simp [eV,zP]⟩,by simp [eV,zP],by simp [zP],by simp [eV,zP],by simp [zP]⟩
theorem IN:eH dN 27 [] iL.av:=by
 have a:=Ny IP (by decide);rw[TL]at a;have g:iL.av= .agg [.isl 1 (iL.vars.map bH), .isl 2 (iL.arrs.map Ar.row), .isl 5 (iL.funs.map Fu.row)]:=rfl;have h:Zw (iL,0,0)= .tup [iL.av, .int .i64 0, .int .i64 0]:=rfl;rw[h]at a;rw[g]at a⊢;unfold IP at a;generalize iL.vars.map bH=l at *;generalize iL.arrs.map Ar.row=m at *;generalize iL.funs.map Fu.row=n at *;refine bX 10 [.cell 0 26] func27 ?_;refine aA fun K b=>?_;simp only[RR,seval];refine aQ fun d k=>?_;simp only[RR,seval];refine b _ _ (aA fun K b=>?_);simp only[RR,seval];refine aP (a) ?_;simp only[RR,seval];refine aQ fun f c=>?_;have j:f≠d:=fun e=>by rw[e]at c;simp only[RR,seval,reduceCtorEq]at c
 have i:=j.symm;simp only[RR,seval];refine b _ _ (aA fun K b=>?_);simp only[i,RR,seval];apply b;refine aO ?_;simp only[aY,aK,bR,RR,seval];refine aZ.pure ?_;rfl
def EL:Code→dC
 | .seq c d=>match EL c with
   |[]=>EL d
   |l=>l
 | .region _ #[⟨_, .assign (.const (.string s)),_,_,_,_⟩] _=>s.data.toList
 |_=>[]
noncomputable def Qq:dC:=match Tryz.f22.body with
 |some c=>EL c
 |none=>[]
theorem EP:decide ((0:Int)<(Qq.length:Int))=true:=by decide+kernel
theorem Jn:eH dN 22 [] (.str Qq):=by
 refine bX 1 [.tmp 0] func22 ?_;refine aA fun K a=>?_;simp only[RR,seval];refine a _ _ (aA fun K a=>?_);simp only[RR,seval];apply a;refine aO ?_;simp only[aY,aK,bR,RR,seval];exact aZ.pure (by kernel_rfl)
theorem X7:eH dN 11 [] (.bool true):=by
 have g:=IN;have i:=Oa iL (by rw[I7];exact IH) (fun _=>Y6 iL Ic (by decide)) fun _=>Vr iL Ic.ok;have j:=Oa zP ML (fun h=>by cases h) fun h=>by cases h
 rw[I2]at i;rw[show iE zP=7 by simp [iE,fV,zP]]at j;have e:=R9 i j;have c:=Vq iL Ic.ok (fun f b _=>by simp only[iL,bA]at b;subst b;rw[OQ];decide) (by rw[I5];exact e.1);rw[VX]at c;have d:=Vq zP VS (fun f b=>by cases b) (by rw[show gZ (fun l=>l.all yA) zP=false by simp [gZ,zP]];exact e.2);rw[VW]at d;have o:fJ [.agg [.nsl, .nsl, .nsl]] [zP.av]:=fJ.cons (iR.agg (fJ.cons (iR.nsl 1) (fJ.cons (iR.nsl 2) (fJ.cons (iR.nsl 5) (fJ.refl _))))) (fJ.refl _);have k:eH dN 14 [iL.av] (.bool true):=e.1;have m:=Jn;have n:=EP;generalize Qq=q at *;generalize iL.av=p at *;generalize zP.av=r at *;simp only at c d;refine bX 34 [.tmp 0] func11 ?_;refine aA fun K a=>?_;simp only[RR,seval];refine a _ _ (aA fun K a=>?_);simp only[RR,seval];refine aP (g) ?_;simp only[RR,seval];refine aP (c) ?_;simp only[RR,seval];refine a _ _ (aA fun K a=>?_);simp only[RR,seval];refine Py d o ?_;simp only[RR,seval];refine a _ _ (aA fun K a=>?_);simp only[RR,seval];refine aP (g) ?_;simp only[RR,seval];refine aP (k) ?_;simp only[RR,seval];refine aP (m) ?_;simp only[n,RR,seval];apply a;refine aO ?_;simp only[aY,aK,bR,RR,seval];refine aZ.pure ?_;rfl
end Go.Proofs.YtaecpjgmcffliaaGreatDoor
