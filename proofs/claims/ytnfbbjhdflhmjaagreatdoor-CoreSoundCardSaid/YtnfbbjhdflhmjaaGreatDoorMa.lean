/- Chapter 18: what a program does, in plain Lean: a run that is cut at a depth. No program in sight. Chapter 18, in plain Lean: a run that is cut deeper goes on the same; what a run puts out and counts grows. Chapter 18, in plain Lean: a program whose names are right comes to an end. Chapter 18, in plain Lean: a program whose names are right comes to an end: statements, programs. Chapter 18, in plain Lean: what a run puts out and counts grows; what more fuel does. -/
import Derived.Test.YtnfbbjhdflhmjaaGreatDoorSy1
set_option linter.unusedSimpArgs false
set_option linter.unusedVariables false
set_option maxRecDepth 10000
namespace Go.Al
def eI (op a b:Int):Int×Int:=
 if op=4 then(IntKind.wrap .u32 (a+b),0)
 else if op=5 then(IntKind.wrap .u32 (a-b),0)
 else if op=6 then(IntKind.wrap .u32 (a *b),0)
 else if op=7 then(if b=0 then(0,14)else(IntKind.wrap .u32 (a.tdiv b),0))
 else if op=8 then(if b=0 then(0,14)else(a.tmod b,0))
 else if op=9 then(IntKind.wrap .u32 (BitVec.ofInt 32 a&&&BitVec.ofInt 32 b).toNat,0)
 else if op=10 then(IntKind.wrap .u32 (BitVec.ofInt 32 a|||BitVec.ofInt 32 b).toNat,0)
 else if op=11 then(IntKind.wrap .u32 (BitVec.ofInt 32 a^^^BitVec.ofInt 32 b).toNat,0)
 else if op=12 then(if 31<b then(0,0)else(IntKind.wrap .u32 (a *2^(min b.toNat 32)),0))
 else if op=13 then(if 31<b then(0,0)else(a.fdiv (2^(min b.toNat 32)),0))
 else if op=14 then((if a<b then 1 else 0),0)
 else if op=15 then((if a=b then 1 else 0),0)
 else(0,1)
structure RS where
 vars:List Int
 arrs:List (List Int)
 read:Nat
 out:List UInt8
 ticks:Nat
inductive Rz (α:Type) where
 |val (a:α) (s:RS)
 |fin (e:Int) (s:RS)
def Rz.st {α:Type}:Rz α→RS| .val _ s=>s| .fin _ s=>s
structure Cf where
 words:Nat
 res:dD→Bool×Int
 body:List Sm
structure Cx where
 funs:List Cf
 inp:dD
 fuel:Nat
def bindR {α β:Type} (x:Option (Rz α)) (f:α→RS→Option (Rz β)):Option (Rz β):=match x with
 |none=>none
 |some (.val a s)=>f a s
 |some (.fin e s)=>some (.fin e s)
def fN (cx:Cx) (s:RS):Rz Unit:=if cx.fuel≤s.ticks then .fin 5 s else .val () {s with ticks:=s.ticks+1}
def oE (cx:Cx) (s:RS):Rz Int:=match cx.inp[s.read]? with
 |some c=> .val c.toNat {s with read:=s.read+1}
 |none=> .val 256 s
def oV (v:Int) (s:RS):Rz Unit:=if 65536≤s.out.length then .fin 4 s else .val () {s with out:=s.out++[UInt8.ofNat (IntKind.wrap .u8 v).toNat]}
def We (i at':Int) (s:RS):Option (Rz Nat):=match s.arrs[i.toNat]? with
 |none=>none
 |some l=>if at'.toNat<l.length then some (.val at'.toNat s)else some (.fin 3 s)
def Sk (i:Int) (j:Nat) (v:Int) (s:RS):RS:={s with arrs:=s.arrs.modify i.toNat fun l=>l.set j v}
def Sq (p:Bool×Int) (v:Int) (ow:List Int) (s:RS):Option (List Int×RS):=
 if 0≤p.2 then(if p.1 then(if p.2.toNat<ow.length then some (ow.set p.2.toNat v,s)else none)else if p.2.toNat<s.vars.length then some (ow,{s with vars:=s.vars.set p.2.toNat v})else none)else none
def Gl (p:Bool×Int) (ow:List Int) (s:RS):Option Int:=if 0≤p.2 then(if p.1 then ow[p.2.toNat]? else s.vars[p.2.toNat]?)else none
mutual
def oY (cx:Cx):Nat→(dD→Bool×Int)→List Int→Ex→RS→Option (Rz Int)
 |0,_,_,_,_=>none
 |n+1,rs,ow, .mk k o m s l,st=>
  if k=1 then some (.val m st)
  else if k=2 then(Gl (rs s) ow st).map fun v=> .val v st
  else if k=3 then match l[0]? with
   |none=>none
   |some a=>bindR (oY cx n rs ow a st) fun at' st=>if 0≤(rs s).2 then bindR (We (rs s).2 at' st) fun j st=>((st.arrs[(rs s).2.toNat]?).bind fun l=>l[j]?).map fun v=> .val v st else none
  else if k=4 then Aa cx n rs ow (rs s).2 l st
  else if k=5 then some (oE cx st)
  else match l[0]? with
   |none=>none
   |some a=>
    if k=7 then bindR (oY cx n rs ow a st) fun x st=>some (.val (if x=0 then 1 else 0) st)
    else match l[1]? with
    |none=>none
    |some b=>
     if k=6 then bindR (oY cx n rs ow a st) fun x st=>bindR (oY cx n rs ow b st) fun y st=>if(eI o x y).2=0 then some (.val (eI o x y).1 st)else some (.fin 2 st)
     else bindR (oY cx n rs ow a st) fun x st=>if decide (x=0)=decide (k=8)then some (.val x st)else oY cx n rs ow b st
def tR (cx:Cx):Nat→(dD→Bool×Int)→List Int→List Ex→RS→Option (Rz (List Int))
 |0,_,_,_,_=>none
 |_+1,_,_,[],st=>some (.val [] st)
 |n+1,rs,ow,e::l,st=>bindR (oY cx n rs ow e st) fun v st=>bindR (tR cx n rs ow l st) fun vs st=>some (.val (v::vs) st)
def Aa (cx:Cx):Nat→(dD→Bool×Int)→List Int→Int→List Ex→RS→Option (Rz Int)
 |0,_,_,_,_,_=>none
 |n+1,rs,ow,i,l,st=>if i<0 then none else match cx.funs[i.toNat]? with
  |none=>none
  |some f=>if f.words<l.length then none else bindR (tR cx n rs ow l st) fun vs st=>bindR (some (fN cx st)) fun _ st=>
   bindR (sL cx n f.res (vs++List.replicate (f.words-l.length) 0) f.body st) fun r st=>some (.val (r.1.getD 0) st)
def zZ (cx:Cx):Nat→(dD→Bool×Int)→List Int→Sm→RS→Option (Rz (Option Int×List Int))
 |0,_,_,_,_=>none
 |n+1,rs,ow, .mk k s l t u,st=>
  if k=1 then match l[0]? with
   |none=>none
   |some a=>bindR (oY cx n rs ow a st) fun v st=>(Sq (rs s) v ow st).map fun p=> .val (none,p.1) p.2
  else if k=2 then match l[0]?,l[1]? with
   |some a,some b=>bindR (oY cx n rs ow a st) fun x st=>bindR (oY cx n rs ow b st) fun v st=>if 0≤(rs s).2 then bindR (We (rs s).2 x st) fun j st=>some (.val (none,ow) (Sk (rs s).2 j v st))else none
   |_,_=>none
  else if k=3 then match l[0]? with
   |none=>none
   |some a=>bindR (oY cx n rs ow a st) fun v st=>bindR (some (oV v st)) fun _ st=>some (.val (none,ow) st)
  else if k=4 then match l[0]? with
   |none=>none
   |some a=>bindR (oY cx n rs ow a st) fun v st=>if v=0 then sL cx n rs ow u st else sL cx n rs ow t st
  else if k=5 then match l[0]? with
   |none=>none
   |some a=>Cc cx n rs ow a t st
  else if k=6 then bindR (Aa cx n rs ow (rs s).2 l st) fun _ st=>some (.val (none,ow) st)
  else if k=7 then match l[0]? with
   |none=>some (.val (some 0,ow) st)
   |some a=>bindR (oY cx n rs ow a st) fun v st=>some (.val (some v,ow) st)
  else some (.val (none,ow) st)
def sL (cx:Cx):Nat→(dD→Bool×Int)→List Int→List Sm→RS→Option (Rz (Option Int×List Int))
 |0,_,_,_,_=>none
 |_+1,_,ow,[],st=>some (.val (none,ow) st)
 |n+1,rs,ow,s::l,st=>bindR (zZ cx n rs ow s st) fun r st=>match r.1 with
  |some v=>some (.val (some v,r.2) st)
  |none=>sL cx n rs r.2 l st
def Cc (cx:Cx):Nat→(dD→Bool×Int)→List Int→Ex→List Sm→RS→Option (Rz (Option Int×List Int))
 |0,_,_,_,_,_=>none
 |n+1,rs,ow,c,t,st=>bindR (some (fN cx st)) fun _ st=>bindR (oY cx n rs ow c st) fun x st=>if x=0 then some (.val (none,ow) st)else
  bindR (sL cx n rs ow t st) fun r st=>match r.1 with
  |some v=>some (.val (some v,r.2) st)
  |none=>Cc cx n rs r.2 c t st
end
end Go.Al
namespace Go.Al
def dF {α:Type} (x y:Option α):Prop:= ∀o,x=some o→y=some o
theorem dF.refl {α:Type} (x:Option α):dF x x:=fun _ h=>h
theorem dF.none {α:Type} (y:Option α):dF none y:=fun _ h=>by cases h
theorem dF.bindR {α β:Type} {x y:Option (Rz α)} {f g:α→RS→Option (Rz β)} (h:dF x y) (hf: ∀a s,dF (f a s) (g a s)):dF (bindR x f) (bindR y g):=fun o ho=>by
 cases x with
 |none=>cases ho
 |some r=>
  have:=h r rfl;subst this
  cases r with
  |val a s=>exact hf a s o ho
  |fin e s=>exact ho
theorem dF.ite {α:Type} {c:Prop} [Decidable c] {x y x' y':Option α} (h:dF x x') (h':dF y y'):dF (if c then x else y) (if c then x' else y'):=by
 split
 ·exact h
 exact h'
structure Deep (cx:Cx) (n:Nat):Prop where
 E: ∀rs ow e st,dF (oY cx n rs ow e st) (oY cx (n+1) rs ow e st)
 A: ∀rs ow l st,dF (tR cx n rs ow l st) (tR cx (n+1) rs ow l st)
 C: ∀rs ow i l st,dF (Aa cx n rs ow i l st) (Aa cx (n+1) rs ow i l st)
 S: ∀rs ow e st,dF (zZ cx n rs ow e st) (zZ cx (n+1) rs ow e st)
 L: ∀rs ow l st,dF (sL cx n rs ow l st) (sL cx (n+1) rs ow l st)
 W: ∀rs ow c t st,dF (Cc cx n rs ow c t st) (Cc cx (n+1) rs ow c t st)
theorem cB (cx:Cx) (n:Nat):Deep cx n:=by
 induction n with
 |zero=>
  constructor
  all_goals
   intros
   intro o h;simp [oY,tR,Aa,zZ,sL,Cc]at h
 |succ n ih=>
  obtain⟨hE,hA,hC,hS,hL,hW⟩:=ih;constructor
  ·rintro rs ow ⟨k,o,m,s,l⟩ st
   simp only[oY];refine dF.ite (dF.refl _) (dF.ite (dF.refl _) (dF.ite ?_ (dF.ite (hC _ _ _ _ _) (dF.ite (dF.refl _) ?_))))
   ·cases l[0]? with
    |none=>exact dF.refl _
    |some a=>exact dF.bindR (hE _ _ _ _) fun _ _=>dF.refl _
   cases l[0]? with
   |none=>exact dF.refl _
   |some a=>
    refine dF.ite (dF.bindR (hE _ _ _ _) fun _ _=>dF.refl _) ?_
    cases l[1]? with
    |none=>exact dF.refl _
    |some b=>
     refine dF.ite (dF.bindR (hE _ _ _ _) fun _ _=>dF.bindR (hE _ _ _ _) fun _ _=>dF.refl _) ?_;exact dF.bindR (hE _ _ _ _) fun _ _=>dF.ite (dF.refl _) (hE _ _ _ _)
  ·intro rs ow l st
   cases l with
   |nil=>simp only[tR];exact dF.refl _
   |cons e l=>
    simp only[tR];exact dF.bindR (hE _ _ _ _) fun _ _=>dF.bindR (hA _ _ _ _) fun _ _=>dF.refl _
  ·intro rs ow i l st
   simp only[Aa];refine dF.ite (dF.refl _) ?_
   cases cx.funs[i.toNat]? with
   |none=>exact dF.refl _
   |some f=>exact dF.ite (dF.refl _) (dF.bindR (hA _ _ _ _) fun _ _=>dF.bindR (dF.refl _) fun _ _=>dF.bindR (hL _ _ _ _) fun _ _=>dF.refl _)
  ·rintro rs ow ⟨k,s,l,t,u⟩ st
   simp only[zZ];refine dF.ite ?_ (dF.ite ?_ (dF.ite ?_ (dF.ite ?_ (dF.ite ?_ (dF.ite ?_ (dF.ite ?_ (dF.refl _)))))))
   ·cases l[0]? with
    |none=>exact dF.refl _
    |some a=>exact dF.bindR (hE _ _ _ _) fun _ _=>dF.refl _
   ·cases l[0]? with
    |none=>exact dF.refl _
    |some a=>
     cases l[1]? with
     |none=>exact dF.refl _
     |some b=>exact dF.bindR (hE _ _ _ _) fun _ _=>dF.bindR (hE _ _ _ _) fun _ _=>dF.refl _
   ·cases l[0]? with
    |none=>exact dF.refl _
    |some a=>exact dF.bindR (hE _ _ _ _) fun _ _=>dF.refl _
   ·cases l[0]? with
    |none=>exact dF.refl _
    |some a=>exact dF.bindR (hE _ _ _ _) fun _ _=>dF.ite (hL _ _ _ _) (hL _ _ _ _)
   ·cases l[0]? with
    |none=>exact dF.refl _
    |some a=>exact hW _ _ _ _ _
   ·exact dF.bindR (hC _ _ _ _ _) fun _ _=>dF.refl _
   cases l[0]? with
   |none=>exact dF.refl _
   |some a=>exact dF.bindR (hE _ _ _ _) fun _ _=>dF.refl _
  ·intro rs ow l st
   cases l with
   |nil=>simp only[sL];exact dF.refl _
   |cons s l=>
    simp only[sL];refine dF.bindR (hS _ _ _ _) fun r st=>?_
    cases r.1 with
    |some v=>exact dF.refl _
    |none=>exact hL _ _ _ _
  intro rs ow c t st;simp only[Cc];refine dF.bindR (dF.refl _) fun _ st=>dF.bindR (hE _ _ _ _) fun x st=>dF.ite (dF.refl _) (dF.bindR (hL _ _ _ _) fun r st=>?_)
  cases r.1 with
  |some v=>exact dF.refl _
  |none=>exact hW _ _ _ _ _
theorem iQ {α:Type} {f:Nat→Option α} (h: ∀n,dF (f n) (f (n+1))) {n m:Nat} (hm:n≤m):dF (f n) (f m):=by
 induction m with
 |zero=>obtain rfl:n=0:=by omega
        exact dF.refl _
 |succ m ih=>
  rcases Nat.lt_or_ge m n with h1|h1
  ·obtain rfl:n=m+1:=by omega
   exact dF.refl _
  exact fun o ho=>h m o (ih h1 o ho)
theorem I5 {cx:Cx} {n m:Nat} (hm:n≤m) {rs ow e st o} (h:oY cx n rs ow e st=some o):oY cx m rs ow e st=some o:=iQ (f:=fun n=>oY cx n rs ow e st) (fun n=>(cB cx n).E _ _ _ _) hm o h
theorem I7 {cx:Cx} {n m:Nat} (hm:n≤m) {rs ow e st o} (h:tR cx n rs ow e st=some o):tR cx m rs ow e st=some o:=iQ (f:=fun n=>tR cx n rs ow e st) (fun n=>(cB cx n).A _ _ _ _) hm o h
theorem I6 {cx:Cx} {n m:Nat} (hm:n≤m) {rs ow i e st o} (h:Aa cx n rs ow i e st=some o):Aa cx m rs ow i e st=some o:=iQ (f:=fun n=>Aa cx n rs ow i e st) (fun n=>(cB cx n).C _ _ _ _ _) hm o h
theorem I4 {cx:Cx} {n m:Nat} (hm:n≤m) {rs ow e st o} (h:zZ cx n rs ow e st=some o):zZ cx m rs ow e st=some o:=iQ (f:=fun n=>zZ cx n rs ow e st) (fun n=>(cB cx n).S _ _ _ _) hm o h
theorem Tz {cx:Cx} {n m:Nat} (hm:n≤m) {rs ow e st o} (h:sL cx n rs ow e st=some o):sL cx m rs ow e st=some o:=iQ (f:=fun n=>sL cx n rs ow e st) (fun n=>(cB cx n).L _ _ _ _) hm o h
theorem I3 {cx:Cx} {n m:Nat} (hm:n≤m) {rs ow c e st o} (h:Cc cx n rs ow c e st=some o):Cc cx m rs ow c e st=some o:=iQ (f:=fun n=>Cc cx n rs ow c e st) (fun n=>(cB cx n).W _ _ _ _ _) hm o h
end Go.Al
namespace Go.Al
def cZ {α:Type} (f:Nat→Option (Rz α)) (P:α→RS→Prop):Prop:= ∃n r,f n=some r∧ ∀a s,r= .val a s→P a s
def cG {α:Type} (f:Nat→Option α):Prop:= ∀n,dF (f n) (f (n+1))
theorem cG.const {α:Type} (x:Option α):cG fun _=>x:=fun _=>dF.refl _
theorem cZ.const {α:Type} {x:Rz α} {P:α→RS→Prop} (h: ∀a s,x= .val a s→P a s):cZ (fun _=>some x) P:=⟨0,x,rfl,h⟩
theorem cZ.mono {α:Type} {f:Nat→Option (Rz α)} {P Q:α→RS→Prop} (h:cZ f P) (hp: ∀a s,P a s→Q a s):cZ f Q:=by
 obtain⟨n,r,h1,h2⟩:=h;exact⟨n,r,h1,fun a s e=>hp a s (h2 a s e)⟩
theorem cZ.bind {α β:Type} {f:Nat→Option (Rz α)} {g:α→RS→Nat→Option (Rz β)} {P:α→RS→Prop} {Q:β→RS→Prop} (h:cZ f P) (hf:cG f) (hg: ∀a s,cG (g a s)) (h2: ∀a s,P a s→cZ (g a s) Q):cZ (fun n=>bindR (f n) fun a s=>g a s n) Q:=by
 obtain⟨n,r,h1,hP⟩:=h
 cases r with
 |fin e s=>exact⟨n, .fin e s,by simp only[h1,bindR],fun a s e=>by cases e⟩
 |val a s=>
  obtain⟨m,r,h3,hQ⟩:=h2 a s (hP a s rfl);refine⟨max n m,r, ?_,hQ⟩;have e1:=iQ hf (Nat.le_max_left n m) _ h1;have e2:=iQ (hg a s) (Nat.le_max_right n m) _ h3;simp only[e1,bindR];exact e2
theorem cZ.ite {α:Type} {c:Prop} [Decidable c] {f g:Nat→Option (Rz α)} {P:α→RS→Prop} (h1:c→cZ f P) (h2: ¬c→cZ g P):cZ (fun n=>if c then f n else g n) P:=by
 by_cases h:c
 ·obtain⟨n,r,e,hp⟩:=h1 h;exact⟨n,r,by simp only[if_pos h,e],hp⟩
 obtain⟨n,r,e,hp⟩:=h2 h;exact⟨n,r,by simp only[if_neg h,e],hp⟩
theorem cZ.succ {α:Type} {f g:Nat→Option (Rz α)} {P:α→RS→Prop} (h:cZ f P) (he: ∀n,g (n+1)=f n):cZ g P:=by
 obtain⟨n,r,h1,h2⟩:=h;exact⟨n+1,r,by rw[he,h1],h2⟩
theorem mE (cx:Cx) (rs ow e st):cG fun n=>oY cx n rs ow e st:=fun n=>(cB cx n).E _ _ _ _
theorem mA (cx:Cx) (rs ow e st):cG fun n=>tR cx n rs ow e st:=fun n=>(cB cx n).A _ _ _ _
theorem mC (cx:Cx) (rs ow i e st):cG fun n=>Aa cx n rs ow i e st:=fun n=>(cB cx n).C _ _ _ _ _
theorem mS (cx:Cx) (rs ow e st):cG fun n=>zZ cx n rs ow e st:=fun n=>(cB cx n).S _ _ _ _
theorem mL (cx:Cx) (rs ow e st):cG fun n=>sL cx n rs ow e st:=fun n=>(cB cx n).L _ _ _ _
theorem mW (cx:Cx) (rs ow c e st):cG fun n=>Cc cx n rs ow c e st:=fun n=>(cB cx n).W _ _ _ _ _
theorem cG.bind {α β:Type} {f:Nat→Option (Rz α)} {g:α→RS→Nat→Option (Rz β)} (hf:cG f) (hg: ∀a s,cG (g a s)):cG fun n=>bindR (f n) fun a s=>g a s n:=fun n=>dF.bindR (hf n) fun a s=>hg a s n
theorem cG.ite {α:Type} {c:Prop} [Decidable c] {f g:Nat→Option α} (hf:cG f) (hg:cG g):cG fun n=>if c then f n else g n:=fun n=>dF.ite (hf n) (hg n)
structure Nm (cx:Cx) (nv na i:Nat) where
 w:Nat
 res:dD→Bool×Int
def Wk (cx:Cx) (nv i:Nat) (p:Bool×Int):Prop:=0≤p.2∧(p.1=true→ ∀f,cx.funs[i]?=some f→p.2<f.words)∧(p.1=false→p.2<nv)
def Lm (cx:Cx) (i:Nat) (p:Bool×Int) (k:Nat):Prop:=0≤p.2∧p.2<i∧ ∃f,cx.funs[p.2.toNat]?=some f∧k≤f.words
mutual
def L2 (cx:Cx) (nv na i:Nat) (rs:dD→Bool×Int):Ex→Prop
 | .mk k _ _ s l=>(k=2→Wk cx nv i (rs s))∧(k=3→0≤(rs s).2∧(rs s).2<na∧1≤l.length)∧(k=4→Lm cx i (rs s) l.length)∧(k=7→1≤l.length)∧(k≠1→k≠2→k≠3→k≠4→k≠5→k≠7→2≤l.length)∧wA cx nv na i rs l
def wA (cx:Cx) (nv na i:Nat) (rs:dD→Bool×Int):List Ex→Prop
 |[]=>True
 |e::l=>L2 cx nv na i rs e∧wA cx nv na i rs l
end
mutual
def A4 (cx:Cx) (nv na i:Nat) (rs:dD→Bool×Int):Sm→Prop
 | .mk k s l t u=>(k=1→Wk cx nv i (rs s))∧(k=2→0≤(rs s).2∧(rs s).2<na∧2≤l.length)∧(k=6→Lm cx i (rs s) l.length)∧(k=1∨k=3∨k=4∨k=5→1≤l.length)∧wA cx nv na i rs l∧wM cx nv na i rs t∧wM cx nv na i rs u
def wM (cx:Cx) (nv na i:Nat) (rs:dD→Bool×Int):List Sm→Prop
 |[]=>True
 |e::l=>A4 cx nv na i rs e∧wM cx nv na i rs l
end
theorem oZ {cx:Cx} {nv na i:Nat} {rs:dD→Bool×Int}: ∀{l:List Ex},wA cx nv na i rs l→ ∀{j:Nat} {e:Ex},l[j]?=some e→L2 cx nv na i rs e∧e.sz≤iA l
 |[],_,j,e,h=>by simp at h
 |x::l,hw,0,e,h=>by
  simp only[wA]at hw;simp only[List.getElem?_cons_zero,Option.some.injEq]at h;subst h;exact⟨hw.1,by simp only[iA];omega⟩
 |x::l,hw,j+1,e,h=>by
  simp only[wA]at hw;simp only[List.getElem?_cons_succ]at h;have:=oZ hw.2 h;exact⟨this.1,by simp only[iA];omega⟩
structure Fm (nv na t:Nat) (s:RS):Prop where
 v:s.vars.length=nv
 a:s.arrs.length=na
 t:t≤s.ticks
theorem Fm.self {nv na t:Nat} {s:RS} (h:Fm nv na t s):Fm nv na s.ticks s:=⟨h.v,h.a,aY _⟩
theorem Fm.trans {nv na t t':Nat} {s:RS} (ht:t≤t') (h:Fm nv na t' s):Fm nv na t s:=⟨h.v,h.a,Nat.le_trans ht h.t⟩
def Uj (cx:Cx) (nv na j:Nat):Prop:= ∀f,cx.funs[j]?=some f→ ∀(ow:List Int) (st:RS),ow.length=f.words→st.vars.length=nv→st.arrs.length=na→
 cZ (fun n=>sL cx n f.res ow f.body st) (fun _ s=>Fm nv na st.ticks s)
theorem D8 {α:Type} {f:Nat→Option (Rz α)} {P:α→RS→Prop} (c:Prop) [Decidable c] (hc:c) {y:Nat→Option (Rz α)} (h:cZ f P):cZ (fun n=>if c then f n else y n) P:=cZ.ite (fun _=>h) (fun h=>absurd hc h)
section
variable {cx : Cx} {nv na i : Nat} {f : Cf} (hf : cx.funs[i]? = some f) (hb : ∀ j, j < i → Uj cx nv na j)
include hf hb
theorem D9 (N:Nat):(∀e:Ex,e.sz≤N→L2 cx nv na i f.res e→ ∀(ow:List Int) (st:RS) (t:Nat),ow.length=f.words→Fm nv na t st→cZ (fun n=>oY cx n f.res ow e st) (fun _ s=>Fm nv na t s)):=by
 induction N with
 |zero=>intro e he;have:=e.sz_eq;omega
 |succ N ih=>
  have ihA: ∀l:List Ex,iA l≤N→wA cx nv na i f.res l→ ∀(ow:List Int) (st:RS) (t:Nat),ow.length=f.words→Fm nv na t st→cZ (fun n=>tR cx n f.res ow l st) (fun vs s=>Fm nv na t s∧vs.length=l.length):=by
   intro l
   induction l with
   |nil=>intro _ _ ow st t ho hF;exact cZ.succ (f:=fun _=>some (.val [] st)) (cZ.const fun a s e=>by cases e;exact⟨hF,rfl⟩) fun n=>by simp only[tR]
   |cons e l ihl=>
    intro hs hw ow st t ho hF;simp only[iA]at hs;simp only[wA]at hw;refine cZ.succ (f:=fun n=>bindR (oY cx n f.res ow e st) fun v st=>bindR (tR cx n f.res ow l st) fun vs st=>some (.val (v::vs) st)) ?_ fun n=>by simp only[tR]
    refine cZ.bind (ih e (by omega) hw.1 ow st t ho hF) (mE _ _ _ _ _) (fun a s=>cG.bind (mA _ _ _ _ _) fun _ _=>cG.const _) fun a s h1=>?_;refine cZ.bind (ihl (by omega) hw.2 ow s t ho h1) (mA _ _ _ _ _) (fun _ _=>cG.const _) fun vs s2 h2=>?_;exact cZ.const fun a s e=>by cases e;exact⟨h2.1,by simp [h2.2]⟩
  rintro⟨k,o,m,s,l⟩ he hw ow st t ho hF;simp only[L2]at hw;obtain⟨w2,w3,w4,w7,w6,wl⟩:=hw;simp only[Ex.sz]at he
  have kid: ∀{j:Nat} {a:Ex},l[j]?=some a→ ∀(st:RS) (t:Nat),Fm nv na t st→cZ (fun n=>oY cx n f.res ow a st) (fun _ s=>Fm nv na t s):=fun {j a} hj st t hF=>by
   have:=oZ wl hj;exact ih a (by omega) this.1 ow st t ho hF
  have get: ∀{j:Nat},j<l.length→ ∃a,l[j]?=some a:=fun {j} h=>⟨l[j],aG h⟩;refine cZ.succ (f:=fun n=>oY cx (n+1) f.res ow (.mk k o m s l) st) ?_ fun n=>rfl;simp only[oY];refine cZ.ite (fun h1=>cZ.const fun a s e=>by cases e;exact hF) fun h1=>cZ.ite (fun h2=>?_) fun h2=>cZ.ite (fun h3=>?_) fun h3=>cZ.ite (fun h4=>?_) fun h4=>cZ.ite (fun h5=>cZ.const fun a s e=>?_) fun h5=>?_
  ·obtain⟨q1,q2,q3⟩:=w2 h2
   have : ∃v,Gl (f.res s) ow st=some v:=by
    unfold Gl;rw[if_pos q1]
    cases hb:(f.res s).1 with
    |true=>
     have:=q2 hb f hf;exact⟨_,aG (by omega)⟩
    |false=>
     have:=q3 hb;have:=hF.v;exact⟨_,aG (by omega)⟩
   obtain⟨v,hv⟩:=this;rw[hv];exact cZ.const fun a s e=>by cases e;exact hF
  ·obtain⟨q1,q2,q3⟩:=w3 h3
   obtain⟨a,ha⟩:=get (j:=0) (by omega);simp only[ha];refine cZ.bind (kid ha st t hF) (mE _ _ _ _ _) (fun _ _=>cG.const _) fun x s1 h6=>?_;rw[if_pos q1];have hl:(f.res s).2.toNat<s1.arrs.length:=by have:=h6.a;omega
   unfold We;rw[aG hl];simp only;generalize hr:s1.arrs[(f.res s).2.toNat]=r;by_cases hx:x.toNat<r.length
   ·simp only[hx,if_true,bindR,aG hl,hr,Option.bind_some]
    rw[aG hx];exact cZ.const fun a s e=>by cases e;exact h6
   simp only[hx,if_false,bindR];exact cZ.const fun a s e=>by cases e
  ·obtain⟨q1,q2,g,hg,q3⟩:=w4 h4
   refine cZ.succ (f:=fun n=>Aa cx (n+1) f.res ow (f.res s).2 l st) ?_ fun n=>rfl;simp only[Aa,if_neg (show ¬(f.res s).2<0 by omega),hg,if_neg (show ¬g.words<l.length by omega)];refine cZ.bind (ihA l (by omega) wl ow st t ho hF) (mA _ _ _ _ _) (fun a s=>cG.bind (cG.const _) fun _ _=>cG.bind (mL _ _ _ _ _) fun _ _=>cG.const _) fun vs s1 h6=>?_;refine cZ.bind (P:=fun _ s=>Fm nv na t s) (cZ.const fun a s e=>?_) (cG.const _) (fun _ _=>cG.bind (mL _ _ _ _ _) fun _ _=>cG.const _) fun _ s2 h7=>?_
   ·unfold fN at e
    split at e
    ·cases e
    cases e;exact⟨h6.1.v,h6.1.a,by have:=h6.1.t;simp only;omega⟩
   refine cZ.bind (hb _ (by omega) g hg _ s2 (by simp [h6.2];omega) h7.v h7.a) (mL _ _ _ _ _) (fun _ _=>cG.const _) fun r s3 h8=>?_;exact cZ.const fun a s e=>by cases e;exact h8.trans h7.t
  ·unfold oE at e
   split at e
   ·cases e;exact⟨hF.v,hF.a,hF.t⟩
   cases e;exact hF
  have h0:1≤l.length:=by
   by_cases h7:k=7
   ·exact w7 h7
   have:=w6 h1 h2 h3 h4 h5 h7;omega
  obtain⟨a,ha⟩:=get (j:=0) (by omega);simp only[ha];refine cZ.ite (fun h7=>?_) fun h7=>?_
  ·refine cZ.bind (kid ha st t hF) (mE _ _ _ _ _) (fun _ _=>cG.const _) fun x s1 h6=>?_
   exact cZ.const fun a s e=>by cases e;exact h6
  obtain⟨b,hb'⟩:=get (j:=1) (by have:=w6 h1 h2 h3 h4 h5 h7;omega);simp only[hb'];refine cZ.ite (fun h6=>?_) fun h6=>?_
  ·refine cZ.bind (kid ha st t hF) (mE _ _ _ _ _) (fun _ _=>cG.bind (mE _ _ _ _ _) fun _ _=>cG.const _) fun x s1 h8=>?_
   refine cZ.bind (kid hb' s1 t h8) (mE _ _ _ _ _) (fun _ _=>cG.const _) fun y s2 h9=>?_;split
   ·exact cZ.const fun a s e=>by cases e;exact h9
   exact cZ.const fun a s e=>by cases e
  refine cZ.bind (kid ha st t hF) (mE _ _ _ _ _) (fun _ _=>cG.ite (cG.const _) (mE _ _ _ _ _)) fun x s1 h8=>?_;exact cZ.ite (fun _=>cZ.const fun a s e=>by cases e;exact h8) fun _=>kid hb' s1 t h8
end
end Go.Al
namespace Go.Al
theorem Qt {cx:Cx} {nv na i:Nat} {rs:dD→Bool×Int}: ∀{l:List Sm},wM cx nv na i rs l→ ∀{j:Nat} {e:Sm},l[j]?=some e→A4 cx nv na i rs e∧e.sz≤fE l
 |[],_,j,e,h=>by simp at h
 |x::l,hw,0,e,h=>by
  simp only[wM]at hw;simp only[List.getElem?_cons_zero,Option.some.injEq]at h;subst h;exact⟨hw.1,by simp only[fE];omega⟩
 |x::l,hw,j+1,e,h=>by
  simp only[wM]at hw;simp only[List.getElem?_cons_succ]at h;have:=Qt hw.2 h;exact⟨this.1,by simp only[fE];omega⟩
structure Fs (nv na w t:Nat) (r:Option Int×List Int) (s:RS):Prop where
 f:Fm nv na t s
 w:r.2.length=w
section
variable {cx : Cx} {nv na i : Nat} {f : Cf} (hf : cx.funs[i]? = some f) (hb : ∀ j, j < i → Uj cx nv na j)
include hf hb
theorem O9: ∀l:List Ex,wA cx nv na i f.res l→ ∀(ow:List Int) (st:RS) (t:Nat),ow.length=f.words→Fm nv na t st→cZ (fun n=>tR cx n f.res ow l st) (fun vs s=>Fm nv na t s∧vs.length=l.length):=by
 intro l
 induction l with
 |nil=>intro _ ow st t ho hF;exact cZ.succ (f:=fun _=>some (.val [] st)) (cZ.const fun a s e=>by cases e;exact⟨hF,rfl⟩) fun n=>by simp only[tR]
 |cons e l ihl=>
  intro hw ow st t ho hF;simp only[wA]at hw;refine cZ.succ (f:=fun n=>bindR (oY cx n f.res ow e st) fun v st=>bindR (tR cx n f.res ow l st) fun vs st=>some (.val (v::vs) st)) ?_ fun n=>by simp only[tR]
  refine cZ.bind (D9 hf hb e.sz e (aY _) hw.1 ow st t ho hF) (mE _ _ _ _ _) (fun a s=>cG.bind (mA _ _ _ _ _) fun _ _=>cG.const _) fun a s h1=>?_;refine cZ.bind (ihl hw.2 ow s t ho h1) (mA _ _ _ _ _) (fun _ _=>cG.const _) fun vs s2 h2=>?_;exact cZ.const fun a s e=>by cases e;exact⟨h2.1,by simp [h2.2]⟩
theorem O8 (l:List Ex) (wl:wA cx nv na i f.res l) {p:Bool×Int} (hc:Lm cx i p l.length) (ow:List Int) (st:RS) (t:Nat) (ho:ow.length=f.words) (hF:Fm nv na t st):cZ (fun n=>Aa cx n f.res ow p.2 l st) (fun _ s=>Fm nv na t s):=by
 obtain⟨q1,q2,g,hg,q3⟩:=hc;refine cZ.succ (f:=fun n=>Aa cx (n+1) f.res ow p.2 l st) ?_ fun n=>rfl;simp only[Aa,if_neg (show ¬p.2<0 by omega),hg,if_neg (show ¬g.words<l.length by omega)];refine cZ.bind (O9 hf hb l wl ow st t ho hF) (mA _ _ _ _ _) (fun a s=>cG.bind (cG.const _) fun _ _=>cG.bind (mL _ _ _ _ _) fun _ _=>cG.const _) fun vs s1 h6=>?_;refine cZ.bind (P:=fun _ s=>Fm nv na t s) (cZ.const fun a s e=>?_) (cG.const _) (fun _ _=>cG.bind (mL _ _ _ _ _) fun _ _=>cG.const _) fun _ s2 h7=>?_
 ·unfold fN at e
  split at e
  ·cases e
  cases e;exact⟨h6.1.v,h6.1.a,by have:=h6.1.t;simp only;omega⟩
 refine cZ.bind (hb _ (by omega) g hg _ s2 (by simp [h6.2];omega) h7.v h7.a) (mL _ _ _ _ _) (fun _ _=>cG.const _) fun r s3 h8=>?_;exact cZ.const fun a s e=>by cases e;exact h8.trans h7.t
theorem O7 (M:Nat): ∀N:Nat,(∀e:Sm,e.sz≤N→A4 cx nv na i f.res e→ ∀(ow:List Int) (st:RS),ow.length=f.words→st.vars.length=nv→st.arrs.length=na→cx.fuel-st.ticks≤M→cZ (fun n=>zZ cx n f.res ow e st) (Fs nv na f.words st.ticks))∧
  (∀l:List Sm,fE l<N→wM cx nv na i f.res l→ ∀(ow:List Int) (st:RS),ow.length=f.words→st.vars.length=nv→st.arrs.length=na→cx.fuel-st.ticks≤M→cZ (fun n=>sL cx n f.res ow l st) (Fs nv na f.words st.ticks)):=by
 induction M using Nat.strongRecOn with
 |_ M ihM=>
 intro N
 induction N with
 |zero=>exact⟨fun e he=>by have:=e.sz_eq;omega,fun l hl=>by omega⟩
 |succ N ih=>
  obtain⟨ihS,ihL⟩:=ih;have fself: ∀st:RS,st.vars.length=nv→st.arrs.length=na→Fm nv na st.ticks st:=fun st h1 h2=>⟨h1,h2,aY _⟩
  have one: ∀e:Sm,e.sz≤N+1→A4 cx nv na i f.res e→ ∀(ow:List Int) (st:RS),ow.length=f.words→st.vars.length=nv→st.arrs.length=na→cx.fuel-st.ticks≤M→cZ (fun n=>zZ cx n f.res ow e st) (Fs nv na f.words st.ticks):=by
   rintro⟨k,s,l,t,u⟩ he hw ow st ho hv ha hM;simp only[A4]at hw;obtain⟨w1,w2,w6,wk,wl,wt,wu⟩:=hw;simp only[Sm.sz]at he;have hF:=fself st hv ha
   have kid: ∀{j:Nat} {a:Ex},l[j]?=some a→ ∀(st:RS) (t:Nat),Fm nv na t st→cZ (fun n=>oY cx n f.res ow a st) (fun _ s=>Fm nv na t s):=fun {j a} hj st t hF=>by
    have:=oZ wl hj;exact D9 hf hb a.sz a (aY _) this.1 ow st t ho hF
   have get: ∀{j:Nat},j<l.length→ ∃a,l[j]?=some a:=fun {j} h=>⟨l[j],aG h⟩;refine cZ.succ (f:=fun n=>zZ cx (n+1) f.res ow (.mk k s l t u) st) ?_ fun n=>rfl;simp only[zZ];refine cZ.ite (fun h1=>?_) fun h1=>cZ.ite (fun h2=>?_) fun h2=>cZ.ite (fun h3=>?_) fun h3=>cZ.ite (fun h4=>?_) fun h4=>cZ.ite (fun h5=>?_) fun h5=>cZ.ite (fun h6=>?_) fun h6=>cZ.ite (fun h7=>?_) fun h7=>cZ.const fun a s e=>by cases e;exact⟨hF,ho⟩
   ·obtain⟨a,ha'⟩:=get (j:=0) (by have:=wk (.inl h1);omega)
    simp only[ha'];refine cZ.bind (kid ha' st st.ticks hF) (mE _ _ _ _ _) (fun _ _=>cG.const _) fun v s1 h8=>?_;obtain⟨q1,q2,q3⟩:=w1 h1;unfold Sq;rw[if_pos q1]
    cases hb:(f.res s).1 with
    |true=>
     have:=q2 hb f hf;rw[if_pos rfl,if_pos (by omega)];exact cZ.const fun a s e=>by cases e;exact⟨h8,by simp [ho]⟩
    |false=>
     have:=q3 hb;have:=h8.v;rw[if_neg (by simp),if_pos (by omega)];exact cZ.const fun a s e=>by cases e;exact⟨⟨by simp [h8.v],h8.a,h8.t⟩,ho⟩
   ·obtain⟨q1,q2,q3⟩:=w2 h2
    obtain⟨a,ha'⟩:=get (j:=0) (by omega);obtain⟨b,hb'⟩:=get (j:=1) (by omega);simp only[ha',hb'];refine cZ.bind (kid ha' st st.ticks hF) (mE _ _ _ _ _) (fun _ _=>cG.bind (mE _ _ _ _ _) fun _ _=>cG.const _) fun x s1 h8=>?_;refine cZ.bind (kid hb' s1 st.ticks h8) (mE _ _ _ _ _) (fun _ _=>cG.const _) fun v s2 h9=>?_;rw[if_pos q1];have hl:(f.res s).2.toNat<s2.arrs.length:=by have:=h9.a;omega
    unfold We;rw[aG hl];simp only;split
    ·simp only[bindR]
     exact cZ.const fun a s e=>by cases e;exact⟨⟨h9.v,by simp [Sk,h9.a],h9.t⟩,ho⟩
    simp only[bindR];exact cZ.const fun a s e=>by cases e
   ·obtain⟨a,ha'⟩:=get (j:=0) (by have:=wk (.inr (.inl h3));omega)
    simp only[ha'];refine cZ.bind (kid ha' st st.ticks hF) (mE _ _ _ _ _) (fun _ _=>cG.const _) fun v s1 h8=>?_;unfold oV;split
    ·simp only[bindR]
     exact cZ.const fun a s e=>by cases e
    simp only[bindR];exact cZ.const fun a s e=>by cases e;exact⟨⟨h8.v,h8.a,h8.t⟩,ho⟩
   ·obtain⟨a,ha'⟩:=get (j:=0) (by have:=wk (.inr (.inr (.inl h4)));omega)
    simp only[ha'];refine cZ.bind (kid ha' st st.ticks hF) (mE _ _ _ _ _) (fun _ _=>cG.ite (mL _ _ _ _ _) (mL _ _ _ _ _)) fun v s1 h8=>?_;have:=h8.t;have q1:=(oZ wl ha').2;have q2:=a.sz_eq;exact cZ.ite (fun _=>(ihL u (by omega) wu ow s1 ho h8.v h8.a (by have:=h8.t;omega)).mono fun r s h=>⟨h.f.trans h8.t,h.w⟩) fun _=>(ihL t (by omega) wt ow s1 ho h8.v h8.a (by have:=h8.t;omega)).mono fun r s h=>⟨h.f.trans h8.t,h.w⟩
   ·obtain⟨a,ha'⟩:=get (j:=0) (by have:=wk (.inr (.inr (.inr h5)));omega)
    simp only[ha'];refine cZ.succ (f:=fun n=>Cc cx (n+1) f.res ow a t st) ?_ fun n=>rfl;simp only[Cc];refine cZ.bind (P:=fun _ s=>s.vars.length=nv∧s.arrs.length=na∧st.ticks<s.ticks∧cx.fuel-s.ticks<M) (cZ.const fun a s e=>?_) (cG.const _) (fun _ _=>cG.bind (mE _ _ _ _ _) fun _ _=>cG.ite (cG.const _) (cG.bind (mL _ _ _ _ _) fun r _=>?_)) fun _ s1 ⟨g1,g2,g3,g4⟩=>?_
    ·unfold fN at e
     split at e
     ·cases e
     cases e;exact⟨hv,ha,by simp,by simp only;omega⟩
    ·cases r.1 with
     |some v=>exact cG.const _
     |none=>exact mW _ _ _ _ _ _
    refine cZ.bind (kid ha' s1 s1.ticks (fself s1 g1 g2)) (mE _ _ _ _ _) (fun _ _=>cG.ite (cG.const _) (cG.bind (mL _ _ _ _ _) fun r _=>?_)) fun x s2 h8=>?_
    ·cases r.1 with
     |some v=>exact cG.const _
     |none=>exact mW _ _ _ _ _ _
    have h8t:=h8.t;refine cZ.ite (fun _=>cZ.const fun a s e=>by cases e;exact⟨h8.trans (by omega),ho⟩) fun _=>?_;refine cZ.bind ((ihM (cx.fuel-s2.ticks) (by omega) (fE t+1)).2 t (by omega) wt ow s2 ho h8.v h8.a (aY _)) (mL _ _ _ _ _) (fun r _=>?_) fun r s3 h9=>?_
    ·cases r.1 with
     |some v=>exact cG.const _
     |none=>exact mW _ _ _ _ _ _
    have h9t:=h9.f.t
    cases hr:r.1 with
    |some v=>exact cZ.const fun a s e=>by cases e;exact⟨h9.f.trans (by omega),h9.w⟩
    |none=>
     have hsz:Sm.sz (.mk 5 s [a] t [])≤(Sm.mk 5 s [a] t []).sz:=aY _
     have:=(ihM (cx.fuel-s3.ticks) (by omega) (Sm.mk 5 s [a] t []).sz).1 (.mk 5 s [a] t []) hsz (by
      simp only[A4,wA,wM]
      exact⟨fun e=>absurd e (by decide),fun e=>absurd e (by decide),fun e=>absurd e (by decide),fun _=>by simp,⟨(oZ wl ha').1,trivial⟩,wt,trivial⟩) r.2 s3 h9.w h9.f.v h9.f.a (aY _)
     obtain⟨n,o,e1,e2⟩:=this
     cases n with
     |zero=>simp [zZ]at e1
     |succ n=>
      simp [zZ]at e1;exact⟨n,o,e1,fun r' s' e=>by have:=e2 r' s' e;exact⟨this.f.trans (by omega),this.w⟩⟩
   ·refine cZ.bind (O8 hf hb l wl (w6 h6) ow st st.ticks ho hF) (mC _ _ _ _ _ _) (fun _ _=>cG.const _) fun v s1 h8=>?_
    exact cZ.const fun a s e=>by cases e;exact⟨h8,ho⟩
   cases hl:l[0]? with
   |none=>exact cZ.const fun a s e=>by cases e;exact⟨hF,ho⟩
   |some a=>
    simp only;refine cZ.bind (kid hl st st.ticks hF) (mE _ _ _ _ _) (fun _ _=>cG.const _) fun v s1 h8=>?_;exact cZ.const fun a s e=>by cases e;exact⟨h8,ho⟩
  refine⟨one, ?_⟩;intro l
  induction l with
  |nil=>
   intro _ _ ow st ho hv ha _;exact cZ.succ (f:=fun _=>some (.val (none,ow) st)) (cZ.const fun a s e=>by cases e;exact⟨fself st hv ha,ho⟩) fun n=>by simp only[sL]
  |cons e l ihl=>
   intro hs hw ow st ho hv ha hM;simp only[fE]at hs;simp only[wM]at hw;refine cZ.succ (f:=fun n=>sL cx (n+1) f.res ow (e::l) st) ?_ fun n=>rfl;simp only[sL];refine cZ.bind (one e (by omega) hw.1 ow st ho hv ha hM) (mS _ _ _ _ _) (fun r _=>?_) fun r s1 h1=>?_
   ·cases r.1 with
    |some v=>exact cG.const _
    |none=>exact mL _ _ _ _ _
   have h1t:=h1.f.t
   cases hr:r.1 with
   |some v=>exact cZ.const fun a s e=>by cases e;exact⟨h1.f,h1.w⟩
   |none=>
    exact(ihl (by omega) hw.2 r.2 s1 h1.w h1.f.v h1.f.a (by omega)).mono fun r s h=>⟨h.f.trans h1.f.t,h.w⟩
end
theorem Zt {cx:Cx} {nv na:Nat} (h: ∀i f,cx.funs[i]?=some f→wM cx nv na i f.res f.body) (j:Nat):Uj cx nv na j:=by
 induction j using Nat.strongRecOn with
 |_ j ih=>
  intro f hf ow st ho hv ha;exact((O7 hf ih (cx.fuel-st.ticks) (fE f.body+1)).2 f.body (by omega) (h j f hf) ow st ho hv ha (aY _)).mono fun r s h=>h.f
def Cx.main (cx:Cx):Option Cf:=cx.funs[cx.funs.length- 1]?
def RS.init (nv:Nat) (sizes:List Nat):RS:=⟨List.replicate nv 0,sizes.map fun n=>List.replicate n 0,0,[],0⟩
def sG {α:Type}:Rz α→Int×dD×Nat
 | .val _ s=>(1,s.out,s.ticks)
 | .fin e s=>(e,s.out,s.ticks)
def Aj (cx:Cx) (n nv:Nat) (sizes:List Nat):Option (Int×dD×Nat):=cx.main.bind fun f=>(sL cx n f.res (List.replicate f.words 0) f.body (RS.init nv sizes)).map sG
theorem A5 {cx:Cx} {nv:Nat} {sizes:List Nat} (h0:cx.funs≠[]) (h: ∀i f,cx.funs[i]?=some f→wM cx nv sizes.length i f.res f.body): ∃n r,Aj cx n nv sizes=some r:=by
 have hl:cx.funs.length- 1<cx.funs.length:=by
  cases hc:cx.funs with
  |nil=>exact absurd hc h0
  |cons a l=>simp
 obtain⟨n,r,hr,_⟩:=Zt h (cx.funs.length- 1) _ (aG hl) (List.replicate (cx.funs[cx.funs.length- 1]).words 0) (RS.init nv sizes) (by simp) (by simp [RS.init]) (by simp [RS.init]);refine⟨n,sG r, ?_⟩;simp only[Aj,Cx.main,aG hl,Option.bind_some];rw[show sL cx n _ _ _ _=some r from hr];rfl
theorem sT {cx:Cx} {n m nv:Nat} {sizes:List Nat} (hm:n≤m) {r} (h:Aj cx n nv sizes=some r):Aj cx m nv sizes=some r:=by
 unfold Aj at *
 cases hc:cx.main with
 |none=>rw[hc]at h;cases h
 |some f=>
  rw[hc]at h;simp only[Option.bind_some,bE]at h⊢;obtain⟨x,hx,e⟩:=h;exact⟨x,Tz hm hx,e⟩
theorem L5 {cx:Cx} {n m nv:Nat} {sizes:List Nat} {r r'} (h:Aj cx n nv sizes=some r) (h':Aj cx m nv sizes=some r'):r=r':=by
 have a:=sT (Nat.le_max_left n m) h;have b:=sT (Nat.le_max_right n m) h';rw[a]at b;exact Option.some.inj b
end Go.Al
namespace Go.Al
structure Gw (fuel:Nat) (s s':RS):Prop where
 out:s.out<+:s'.out
 t:s.ticks≤s'.ticks
 f:s.ticks≤fuel→s'.ticks≤fuel
theorem Gw.refl (fuel:Nat) (s:RS):Gw fuel s s:=⟨List.prefix_refl _,aY _,fun h=>h⟩
theorem Gw.trans {fuel:Nat} {s s1 s2:RS} (h:Gw fuel s s1) (h':Gw fuel s1 s2):Gw fuel s s2:=⟨h.out.trans h'.out,Nat.le_trans h.t h'.t,fun x=>h'.f (h.f x)⟩
def cA {α:Type} (fuel:Nat) (s:RS) (x:Option (Rz α)):Prop:= ∀o,x=some o→Gw fuel s o.st
theorem cA.none {α:Type} (fuel:Nat) (s:RS):cA fuel s (none:Option (Rz α)):=fun _ h=>by cases h
theorem cA.val {α:Type} {fuel:Nat} {s s':RS} (h:Gw fuel s s') (a:α):cA fuel s (some (.val a s')):=fun _ e=>by cases e;exact h
theorem cA.fin {α:Type} {fuel:Nat} {s s':RS} (h:Gw fuel s s') (a:Int):cA fuel s (some (.fin a s':Rz α)):=fun _ e=>by cases e;exact h
theorem cA.bind {α β:Type} {fuel:Nat} {s:RS} {x:Option (Rz α)} {f:α→RS→Option (Rz β)} (h:cA fuel s x) (hf: ∀a s',cA fuel s' (f a s')):cA fuel s (bindR x f):=fun o ho=>by
 cases x with
 |none=>cases ho
 |some r=>
  have h1:=h r rfl
  cases r with
  |val a s'=>exact h1.trans (hf a s' o ho)
  |fin e s'=>cases ho;exact h1
theorem cA.ite {α:Type} {fuel:Nat} {s:RS} {c:Prop} [Decidable c] {x y:Option (Rz α)} (h:cA fuel s x) (h':cA fuel s y):cA fuel s (if c then x else y):=by
 split
 ·exact h
 exact h'
theorem qP (cx:Cx) (st:RS):cA cx.fuel st (some (fN cx st)):=by
 unfold fN;split
 ·exact cA.fin (Gw.refl _ _) _
 exact cA.val (by exact⟨List.prefix_refl _,Nat.le_succ _,fun _=>by show st.ticks+1≤_;omega⟩) _
theorem Tr (cx:Cx) (fuel:Nat) (st:RS):cA fuel st (some (oE cx st)):=by
 unfold oE;split
 ·exact cA.val (by exact⟨List.prefix_refl _,aY _,fun h=>h⟩) _
 exact cA.val (Gw.refl _ _) _
theorem Dn (fuel:Nat) (v:Int) (st:RS):cA fuel st (some (oV v st)):=by
 unfold oV;split
 ·exact cA.fin (Gw.refl _ _) _
 exact cA.val (by exact⟨List.prefix_append _ _,aY _,fun h=>h⟩) _
theorem Ih (fuel:Nat) (i x:Int) (st:RS):cA fuel st (We i x st):=by
 unfold We;split
 ·exact cA.none _ _
 split
 ·exact cA.val (Gw.refl _ _) _
 exact cA.fin (Gw.refl _ _) _
theorem Sp (fuel:Nat) (p:Bool×Int) (v:Int) (ow:List Int) (st:RS):cA fuel st ((Sq p v ow st).map fun r=>Rz.val ((none:Option Int),r.1) r.2):=by
 unfold Sq;split
 ·split
  ·split
   ·exact cA.val (Gw.refl _ _) _
   exact cA.none _ _
  split
  ·exact cA.val (by exact⟨List.prefix_refl _,aY _,fun h=>h⟩) _
  exact cA.none _ _
 exact cA.none _ _
structure Q6 (cx:Cx) (n:Nat):Prop where
 E: ∀rs ow e st,cA cx.fuel st (oY cx n rs ow e st)
 A: ∀rs ow l st,cA cx.fuel st (tR cx n rs ow l st)
 C: ∀rs ow i l st,cA cx.fuel st (Aa cx n rs ow i l st)
 S: ∀rs ow e st,cA cx.fuel st (zZ cx n rs ow e st)
 L: ∀rs ow l st,cA cx.fuel st (sL cx n rs ow l st)
 W: ∀rs ow c t st,cA cx.fuel st (Cc cx n rs ow c t st)
theorem Pi (cx:Cx) (n:Nat):Q6 cx n:=by
 induction n with
 |zero=>
  constructor
  all_goals
   intros
   intro o h;simp [oY,tR,Aa,zZ,sL,Cc]at h
 |succ n ih=>
  obtain⟨hE,hA,hC,hS,hL,hW⟩:=ih;constructor
  ·rintro rs ow ⟨k,o,m,s,l⟩ st
   simp only[oY];refine cA.ite (cA.val (Gw.refl _ _) _) (cA.ite ?_ (cA.ite ?_ (cA.ite (hC _ _ _ _ _) (cA.ite (Tr _ _ _) ?_))))
   ·cases Gl (rs s) ow st with
    |none=>exact cA.none _ _
    |some v=>exact cA.val (Gw.refl _ _) _
   ·cases l[0]? with
    |none=>exact cA.none _ _
    |some a=>
     refine cA.bind (hE _ _ _ _) fun x st=>cA.ite (cA.bind (Ih _ _ _ _) fun j st=>?_) (cA.none _ _)
     cases(st.arrs[(rs s).2.toNat]?).bind fun l=>l[j]? with
     |none=>exact cA.none _ _
     |some v=>exact cA.val (Gw.refl _ _) _
   cases l[0]? with
   |none=>exact cA.none _ _
   |some a=>
    refine cA.ite (cA.bind (hE _ _ _ _) fun _ _=>cA.val (Gw.refl _ _) _) ?_
    cases l[1]? with
    |none=>exact cA.none _ _
    |some b=>
     refine cA.ite (cA.bind (hE _ _ _ _) fun _ _=>cA.bind (hE _ _ _ _) fun _ _=>cA.ite (cA.val (Gw.refl _ _) _) (cA.fin (Gw.refl _ _) _)) ?_;exact cA.bind (hE _ _ _ _) fun _ _=>cA.ite (cA.val (Gw.refl _ _) _) (hE _ _ _ _)
  ·intro rs ow l st
   cases l with
   |nil=>simp only[tR];exact cA.val (Gw.refl _ _) _
   |cons e l=>
    simp only[tR];exact cA.bind (hE _ _ _ _) fun _ _=>cA.bind (hA _ _ _ _) fun _ _=>cA.val (Gw.refl _ _) _
  ·intro rs ow i l st
   simp only[Aa];refine cA.ite (cA.none _ _) ?_
   cases cx.funs[i.toNat]? with
   |none=>exact cA.none _ _
   |some f=>exact cA.ite (cA.none _ _) (cA.bind (hA _ _ _ _) fun _ _=>cA.bind (qP _ _) fun _ _=>cA.bind (hL _ _ _ _) fun _ _=>cA.val (Gw.refl _ _) _)
  ·rintro rs ow ⟨k,s,l,t,u⟩ st
   simp only[zZ];refine cA.ite ?_ (cA.ite ?_ (cA.ite ?_ (cA.ite ?_ (cA.ite ?_ (cA.ite ?_ (cA.ite ?_ (cA.val (Gw.refl _ _) _)))))))
   ·cases l[0]? with
    |none=>exact cA.none _ _
    |some a=>exact cA.bind (hE _ _ _ _) fun _ _=>Sp _ _ _ _ _
   ·cases l[0]? with
    |none=>exact cA.none _ _
    |some a=>
     cases l[1]? with
     |none=>exact cA.none _ _
     |some b=>exact cA.bind (hE _ _ _ _) fun _ _=>cA.bind (hE _ _ _ _) fun _ st=>cA.ite (cA.bind (Ih _ _ _ _) fun _ _=>cA.val (by exact⟨List.prefix_refl _,aY _,fun h=>h⟩) _) (cA.none _ _)
   ·cases l[0]? with
    |none=>exact cA.none _ _
    |some a=>exact cA.bind (hE _ _ _ _) fun _ _=>cA.bind (Dn _ _ _) fun _ _=>cA.val (Gw.refl _ _) _
   ·cases l[0]? with
    |none=>exact cA.none _ _
    |some a=>exact cA.bind (hE _ _ _ _) fun _ _=>cA.ite (hL _ _ _ _) (hL _ _ _ _)
   ·cases l[0]? with
    |none=>exact cA.none _ _
    |some a=>exact hW _ _ _ _ _
   ·exact cA.bind (hC _ _ _ _ _) fun _ _=>cA.val (Gw.refl _ _) _
   cases l[0]? with
   |none=>exact cA.val (Gw.refl _ _) _
   |some a=>exact cA.bind (hE _ _ _ _) fun _ _=>cA.val (Gw.refl _ _) _
  ·intro rs ow l st
   cases l with
   |nil=>simp only[sL];exact cA.val (Gw.refl _ _) _
   |cons s l=>
    simp only[sL];refine cA.bind (hS _ _ _ _) fun r st=>?_
    cases r.1 with
    |some v=>exact cA.val (Gw.refl _ _) _
    |none=>exact hL _ _ _ _
  intro rs ow c t st;simp only[Cc];refine cA.bind (qP _ _) fun _ st=>cA.bind (hE _ _ _ _) fun x st=>cA.ite (cA.val (Gw.refl _ _) _) (cA.bind (hL _ _ _ _) fun r st=>?_)
  cases r.1 with
  |some v=>exact cA.val (Gw.refl _ _) _
  |none=>exact hW _ _ _ _ _
def dA {α:Type} (F:Nat) (x y:Option (Rz α)):Prop:= ∀o,x=some o→(match o with
 | .fin e s=>(e≠5∧y=some o)∨(e=5∧F≤s.ticks∧ ∀o',y=some o'→s.out<+:o'.st.out∧s.ticks≤o'.st.ticks)
 | .val _ _=>y=some o)
section
variable {F F' : Nat}
theorem dA.none {α:Type} (y:Option (Rz α)):dA F none y:=fun _ h=>by cases h
theorem dA.val {α:Type} (a:α) (s:RS):dA F (some (.val a s)) (some (.val a s)):=fun _ h=>by cases h;rfl
theorem dA.fin {α:Type} {e:Int} (he:e≠5) (s:RS):dA F (some (.fin e s:Rz α)) (some (.fin e s)):=fun _ h=>by cases h;exact .inl ⟨he,rfl⟩
theorem dA.same {α:Type} {x:Option (Rz α)} (h: ∀s,x≠some (.fin 5 s)):dA F x x:=fun o ho=>by
 cases o with
 |val a s=>exact ho
 |fin e s=>
  refine .inl ⟨fun he=>?_,ho⟩;subst he;exact h s ho
theorem dA.bind {α β:Type} {x y:Option (Rz α)} {f g:α→RS→Option (Rz β)} (h:dA F x y) (hf: ∀a s,dA F (f a s) (g a s)) (hg: ∀a s,cA F' s (g a s)):dA F (bindR x f) (bindR y g):=fun o ho=>by
 cases x with
 |none=>cases ho
 |some r=>
  have h1:=h r rfl
  cases r with
  |val a s=>
   simp only at h1;subst h1;exact hf a s o ho
  |fin e s=>
   cases ho;simp only at h1⊢;rcases h1 with⟨he,rfl⟩|⟨he,ht,h2⟩
   ·exact .inl ⟨he,rfl⟩
   refine .inr ⟨he,ht,fun o' ho'=>?_⟩
   cases y with
   |none=>cases ho'
   |some r'=>
    have h3:=h2 r' rfl
    cases r' with
    |val a s'=>
     have h4:=hg a s' o' ho';simp only[Rz.st]at h3;exact⟨h3.1.trans h4.out,Nat.le_trans h3.2 h4.t⟩
    |fin e s'=>cases ho';exact h3
theorem dA.ite {α:Type} {c:Prop} [Decidable c] {x y x' y':Option (Rz α)} (h:dA F x x') (h':dA F y y'):dA F (if c then x else y) (if c then x' else y'):=by
 split
 ·exact h
 exact h'
end
structure Q5 (cx cx':Cx) (n:Nat):Prop where
 E: ∀rs ow e st,dA cx.fuel (oY cx n rs ow e st) (oY cx' n rs ow e st)
 A: ∀rs ow l st,dA cx.fuel (tR cx n rs ow l st) (tR cx' n rs ow l st)
 C: ∀rs ow i l st,dA cx.fuel (Aa cx n rs ow i l st) (Aa cx' n rs ow i l st)
 S: ∀rs ow e st,dA cx.fuel (zZ cx n rs ow e st) (zZ cx' n rs ow e st)
 L: ∀rs ow l st,dA cx.fuel (sL cx n rs ow l st) (sL cx' n rs ow l st)
 W: ∀rs ow c t st,dA cx.fuel (Cc cx n rs ow c t st) (Cc cx' n rs ow c t st)
theorem De {cx cx':Cx} (h:cx.fuel≤cx'.fuel) (st:RS):dA cx.fuel (some (fN cx st)) (some (fN cx' st)):=by
 intro o ho;unfold fN at ho;split at ho
 ·cases ho
  refine .inr ⟨rfl,by assumption,fun o' ho'=>?_⟩;have:=qP cx' st o' ho';exact⟨this.out,this.t⟩
 cases ho;simp only[fN];rw[if_neg (by omega)]
theorem Vr {cx cx':Cx} (hf:cx.fuel≤cx'.fuel) (hfun:cx'.funs=cx.funs) (hi:cx'.inp=cx.inp) (n:Nat):Q5 cx cx' n:=by
 induction n with
 |zero=>
  constructor
  all_goals
   intros
   intro o h;simp [oY,tR,Aa,zZ,sL,Cc]at h
 |succ n ih=>
  obtain⟨hE,hA,hC,hS,hL,hW⟩:=ih;obtain⟨gE,gA,gC,gS,gL,gW⟩:=Pi cx' n;have hget: ∀st,oE cx' st=oE cx st:=fun st=>by simp only[oE,hi]
  have hat: ∀i x st,dA cx.fuel (We i x st) (We i x st):=fun i x st=>dA.same fun s h=>by
   unfold We at h;split at h
   ·cases h
   split at h<;>cases h
  have hput: ∀v st,dA cx.fuel (some (oV v st)) (some (oV v st)):=fun v st=>dA.same fun s h=>by
   unfold oV at h;split at h<;>cases h
  constructor
  ·rintro rs ow ⟨k,o,m,s,l⟩ st
   simp only[oY,hget];refine dA.ite (dA.val _ _) (dA.ite ?_ (dA.ite ?_ (dA.ite (hC _ _ _ _ _) (dA.ite ?_ ?_))))
   ·cases Gl (rs s) ow st with
    |none=>exact dA.none _
    |some v=>exact dA.val _ _
   ·cases l[0]? with
    |none=>exact dA.none _
    |some a=>
     refine dA.bind (F':=cx'.fuel) (hE _ _ _ _) (fun x st=>dA.ite (dA.bind (F':=cx'.fuel) (hat _ _ _) (fun j st=>?_) fun j st=>?_) (dA.none _)) fun x st=>cA.ite (cA.bind (Ih _ _ _ _) fun j st=>?_) (cA.none _ _)
     all_goals cases(st.arrs[(rs s).2.toNat]?).bind fun l=>l[j]?
     all_goals first|exact dA.none _|exact dA.val _ _|exact cA.none _ _|exact cA.val (Gw.refl _ _) _
   ·exact dA.same fun s h=>by
     unfold oE at h;split at h<;>cases h
   cases l[0]? with
   |none=>exact dA.none _
   |some a=>
    refine dA.ite (dA.bind (F':=cx'.fuel) (hE _ _ _ _) (fun _ _=>dA.val _ _) fun _ _=>cA.val (Gw.refl _ _) _) ?_
    cases l[1]? with
    |none=>exact dA.none _
    |some b=>
     refine dA.ite (dA.bind (F':=cx'.fuel) (hE _ _ _ _) (fun _ _=>dA.bind (F':=cx'.fuel) (hE _ _ _ _) (fun _ _=>dA.ite (dA.val _ _) (dA.fin (by decide) _)) fun _ _=>cA.ite (cA.val (Gw.refl _ _) _) (cA.fin (Gw.refl _ _) _)) fun _ _=>cA.bind (gE _ _ _ _) fun _ _=>cA.ite (cA.val (Gw.refl _ _) _) (cA.fin (Gw.refl _ _) _)) ?_;exact dA.bind (F':=cx'.fuel) (hE _ _ _ _) (fun _ _=>dA.ite (dA.val _ _) (hE _ _ _ _)) fun _ _=>cA.ite (cA.val (Gw.refl _ _) _) (gE _ _ _ _)
  ·intro rs ow l st
   cases l with
   |nil=>simp only[tR];exact dA.val _ _
   |cons e l=>
    simp only[tR];exact dA.bind (F':=cx'.fuel) (hE _ _ _ _) (fun _ _=>dA.bind (F':=cx'.fuel) (hA _ _ _ _) (fun _ _=>dA.val _ _) fun _ _=>cA.val (Gw.refl _ _) _) fun _ _=>cA.bind (gA _ _ _ _) fun _ _=>cA.val (Gw.refl _ _) _
  ·intro rs ow i l st
   simp only[Aa,hfun];refine dA.ite (dA.none _) ?_
   cases cx.funs[i.toNat]? with
   |none=>exact dA.none _
   |some f=>
    exact dA.ite (dA.none _) (dA.bind (F':=cx'.fuel) (hA _ _ _ _) (fun _ _=>dA.bind (F':=cx'.fuel) (De hf _) (fun _ _=>dA.bind (F':=cx'.fuel) (hL _ _ _ _) (fun _ _=>dA.val _ _) fun _ _=>cA.val (Gw.refl _ _) _) fun _ _=>cA.bind (gL _ _ _ _) fun _ _=>cA.val (Gw.refl _ _) _) fun _ _=>cA.bind (qP _ _) fun _ _=>cA.bind (gL _ _ _ _) fun _ _=>cA.val (Gw.refl _ _) _)
  ·rintro rs ow ⟨k,s,l,t,u⟩ st
   simp only[zZ];refine dA.ite ?_ (dA.ite ?_ (dA.ite ?_ (dA.ite ?_ (dA.ite ?_ (dA.ite ?_ (dA.ite ?_ (dA.val _ _)))))))
   ·cases l[0]? with
    |none=>exact dA.none _
    |some a=>
     refine dA.bind (F':=cx'.fuel) (hE _ _ _ _) (fun v st=>?_) fun _ _=>Sp _ _ _ _ _
     cases Sq (rs s) v ow st with
     |none=>exact dA.none _
     |some r=>exact dA.val _ _
   ·cases l[0]? with
    |none=>exact dA.none _
    |some a=>
     cases l[1]? with
     |none=>exact dA.none _
     |some b=>exact dA.bind (F':=cx'.fuel) (hE _ _ _ _) (fun _ _=>dA.bind (F':=cx'.fuel) (hE _ _ _ _) (fun _ st=>dA.ite (dA.bind (F':=cx'.fuel) (hat _ _ _) (fun _ _=>dA.val _ _) fun _ _=>cA.val (by exact⟨List.prefix_refl _,aY _,fun h=>h⟩) _) (dA.none _)) fun _ _=>cA.ite (cA.bind (Ih _ _ _ _) fun _ _=>cA.val (by exact⟨List.prefix_refl _,aY _,fun h=>h⟩) _) (cA.none _ _)) fun _ _=>cA.bind (gE _ _ _ _) fun _ _=>cA.ite (cA.bind (Ih _ _ _ _) fun _ _=>cA.val (by exact⟨List.prefix_refl _,aY _,fun h=>h⟩) _) (cA.none _ _)
   ·cases l[0]? with
    |none=>exact dA.none _
    |some a=>exact dA.bind (F':=cx'.fuel) (hE _ _ _ _) (fun _ _=>dA.bind (F':=cx'.fuel) (hput _ _) (fun _ _=>dA.val _ _) fun _ _=>cA.val (Gw.refl _ _) _) fun _ _=>cA.bind (Dn _ _ _) fun _ _=>cA.val (Gw.refl _ _) _
   ·cases l[0]? with
    |none=>exact dA.none _
    |some a=>exact dA.bind (F':=cx'.fuel) (hE _ _ _ _) (fun _ _=>dA.ite (hL _ _ _ _) (hL _ _ _ _)) fun _ _=>cA.ite (gL _ _ _ _) (gL _ _ _ _)
   ·cases l[0]? with
    |none=>exact dA.none _
    |some a=>exact hW _ _ _ _ _
   ·exact dA.bind (F':=cx'.fuel) (hC _ _ _ _ _) (fun _ _=>dA.val _ _) fun _ _=>cA.val (Gw.refl _ _) _
   cases l[0]? with
   |none=>exact dA.val _ _
   |some a=>exact dA.bind (F':=cx'.fuel) (hE _ _ _ _) (fun _ _=>dA.val _ _) fun _ _=>cA.val (Gw.refl _ _) _
  ·intro rs ow l st
   cases l with
   |nil=>simp only[sL];exact dA.val _ _
   |cons s l=>
    simp only[sL];refine dA.bind (F':=cx'.fuel) (hS _ _ _ _) (fun r st=>?_) fun r st=>?_
    ·cases r.1 with
     |some v=>exact dA.val _ _
     |none=>exact hL _ _ _ _
    cases r.1 with
    |some v=>exact cA.val (Gw.refl _ _) _
    |none=>exact gL _ _ _ _
  intro rs ow c t st
  have g3: ∀(r:Option Int×List Int) st,cA cx'.fuel st (match r.1 with |some v=>some (.val (some v,r.2) st)|none=>Cc cx' n rs r.2 c t st):=fun r st=>by
   cases r.1 with
   |some v=>exact cA.val (Gw.refl _ _) _
   |none=>exact gW _ _ _ _ _
  simp only[Cc];refine dA.bind (F':=cx'.fuel) (De hf _) (fun _ st=>dA.bind (F':=cx'.fuel) (hE _ _ _ _) (fun x st=>dA.ite (dA.val _ _) (dA.bind (F':=cx'.fuel) (hL _ _ _ _) (fun r st=>?_) fun r st=>g3 r st)) fun _ _=>cA.ite (cA.val (Gw.refl _ _) _) (cA.bind (gL _ _ _ _) g3)) fun _ _=>cA.bind (gE _ _ _ _) fun _ _=>cA.ite (cA.val (Gw.refl _ _) _) (cA.bind (gL _ _ _ _) g3)
  cases r.1 with
  |some v=>exact dA.val _ _
  |none=>exact hW _ _ _ _ _
theorem E3 {cx cx':Cx} (hf:cx.fuel≤cx'.fuel) (hfun:cx'.funs=cx.funs) (hi:cx'.inp=cx.inp) {n m nv:Nat} {sizes:List Nat} {r r':Int×dD×Nat} (h:Aj cx n nv sizes=some r) (h':Aj cx' m nv sizes=some r'):
  r.2.2≤cx.fuel∧(r.1≠5→r'=r)∧(r.1=5→r.2.2=cx.fuel∧r.2.1<+:r'.2.1∧cx.fuel≤r'.2.2):=by
 have h1:=sT (Nat.le_max_left n m) h;have h2:=sT (Nat.le_max_right n m) h';have hm:cx'.main=cx.main:=by simp only[Cx.main,hfun]
 unfold Aj at h1 h2;rw[hm]at h2
 cases hc:cx.main with
 |none=>rw[hc]at h1;cases h1
 |some f=>
  rw[hc]at h1 h2;simp only[Option.bind_some,bE]at h1 h2;obtain⟨x,hx,rfl⟩:=h1;obtain⟨y,hy,rfl⟩:=h2;have g:=(Pi cx (max n m)).L _ _ _ _ x hx;have g2:=g.f (Nat.zero_le _);have e:=(Vr hf hfun hi (max n m)).L _ _ _ _ x hx
  cases x with
  |val a s=>
   simp only at e;rw[hy]at e;cases e;exact⟨g2,fun _=>rfl,fun c=>by simp [sG]at c⟩
  |fin k s=>
   simp only at e;rcases e with⟨hk,e⟩|⟨rfl,ht,e⟩
   ·rw[hy]at e
    cases e;exact⟨g2,fun _=>rfl,fun c=>absurd c hk⟩
   have e2:=e y hy;simp only[Rz.st]at g2;refine⟨g2,fun c=>absurd rfl c,fun _=>⟨by simp only[sG];omega, ?_⟩⟩
   cases y with
   |val a s'=>exact⟨e2.1,by simp only[Rz.st]at e2;simp only[sG];omega⟩
   |fin k s'=>exact⟨e2.1,by simp only[Rz.st]at e2;simp only[sG];omega⟩
end Go.Al
