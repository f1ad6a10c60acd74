/- Chapter 18: what a program does, in plain Lean: a run that is cut at a depth. No program in sight. Chapter 18, in plain Lean: a run that is cut deeper goes on the same; what a run puts out and counts grows. Chapter 18, in plain Lean: a program whose names are right comes to an end. Chapter 18, in plain Lean: a program whose names are right comes to an end: statements, programs. Chapter 18, in plain Lean: what a run puts out and counts grows; what more fuel does. -/
import Derived.Test.YtnfbbjhdflhmjaaGreatDoorSy1
set_option linter.unusedSimpArgs false
set_option linter.unusedVariables false
set_option maxRecDepth 10000
namespace Go.Al
def cU (op a b:Int):Int×Int:=
 if op=4 then(IntKind.wrap .u32 (a+b),0)
 else if op=5 then(IntKind.wrap .u32 (a-b),0)
 else if op=6 then(IntKind.wrap .u32 (a *b),0)
 else if op=7 then(if b=0 then(0,14)else(IntKind.wrap .u32 (a.tdiv b),0))
 else if op=8 then(if b=0 then(0,14)else(a.tmod b,0))
 else if op=9 then(IntKind.wrap .u32 (BitVec.ofInt 32 a&&&BitVec.ofInt 32 b).toNat,0)
 else if op=10 then(IntKind.wrap .u32 (BitVec.ofInt 32 a|||BitVec.ofInt 32 b).toNat,0)
 else if op=11 then(IntKind.wrap .u32 (BitVec.ofInt 32 a^^^BitVec.ofInt 32 b).toNat,0)
 else if op=12 then(if 31<b then(0,0)else(IntKind.wrap .u32 (a *2^(min b.toNat 32)),0))
 else if op=13 then(if 31<b then(0,0)else(a.fdiv (2^(min b.toNat 32)),0))
 else if op=14 then((if a<b then 1 else 0),0)
 else if op=15 then((if a=b then 1 else 0),0)
 else(0,1)
structure RS where
 vars:List Int
 arrs:List (List Int)
 read:Nat
 out:List UInt8
 ticks:Nat
inductive Rz (α:Type) where
 |val (a:α) (s:RS)
 |fin (e:Int) (s:RS)
def Rz.st {α:Type}:Rz α→RS| .val _ s=>s| .fin _ s=>s
structure Cf where
 words:Nat
 res:cR→Bool×Int
 body:List Sm
structure Cx where
 funs:List Cf
 inp:cR
 fuel:Nat
def bindR {α β:Type} (x:Option (Rz α)) (f:α→RS→Option (Rz β)):Option (Rz β):=match x with
 |none=>none
 |some (.val a s)=>f a s
 |some (.fin e s)=>some (.fin e s)
def eQ (cx:Cx) (s:RS):Rz Unit:=if cx.fuel≤s.ticks then .fin 5 s else .val () {s with ticks:=s.ticks+1}
def lW (cx:Cx) (s:RS):Rz Int:=match cx.inp[s.read]? with
 |some c=> .val c.toNat {s with read:=s.read+1}
 |none=> .val 256 s
def kX (v:Int) (s:RS):Rz Unit:=if 65536≤s.out.length then .fin 4 s else .val () {s with out:=s.out++[UInt8.ofNat (IntKind.wrap .u8 v).toNat]}
def Oe (i at':Int) (s:RS):Option (Rz Nat):=match s.arrs[i.toNat]? with
 |none=>none
 |some l=>if at'.toNat<l.length then some (.val at'.toNat s)else some (.fin 3 s)
def rA (i:Int) (j:Nat) (v:Int) (s:RS):RS:={s with arrs:=s.arrs.modify i.toNat fun l=>l.set j v}
def yV (p:Bool×Int) (v:Int) (ow:List Int) (s:RS):Option (List Int×RS):=
 if 0≤p.2 then(if p.1 then(if p.2.toNat<ow.length then some (ow.set p.2.toNat v,s)else none)else if p.2.toNat<s.vars.length then some (ow,{s with vars:=s.vars.set p.2.toNat v})else none)else none
def uM (p:Bool×Int) (ow:List Int) (s:RS):Option Int:=if 0≤p.2 then(if p.1 then ow[p.2.toNat]? else s.vars[p.2.toNat]?)else none
mutual
def gB (cx:Cx):Nat→(cR→Bool×Int)→List Int→Ex→RS→Option (Rz Int)
 |0,_,_,_,_=>none
 |n+1,rs,ow, .mk k o m s l,st=>
  if k=1 then some (.val m st)
  else if k=2 then(uM (rs s) ow st).map fun v=> .val v st
  else if k=3 then match l[0]? with
   |none=>none
   |some a=>bindR (gB cx n rs ow a st) fun at' st=>if 0≤(rs s).2 then bindR (Oe (rs s).2 at' st) fun j st=>((st.arrs[(rs s).2.toNat]?).bind fun l=>l[j]?).map fun v=> .val v st else none
  else if k=4 then qI cx n rs ow (rs s).2 l st
  else if k=5 then some (lW cx st)
  else match l[0]? with
   |none=>none
   |some a=>
    if k=7 then bindR (gB cx n rs ow a st) fun x st=>some (.val (if x=0 then 1 else 0) st)
    else match l[1]? with
    |none=>none
    |some b=>
     if k=6 then bindR (gB cx n rs ow a st) fun x st=>bindR (gB cx n rs ow b st) fun y st=>if(cU o x y).2=0 then some (.val (cU o x y).1 st)else some (.fin 2 st)
     else bindR (gB cx n rs ow a st) fun x st=>if decide (x=0)=decide (k=8)then some (.val x st)else gB cx n rs ow b st
def mF (cx:Cx):Nat→(cR→Bool×Int)→List Int→List Ex→RS→Option (Rz (List Int))
 |0,_,_,_,_=>none
 |_+1,_,_,[],st=>some (.val [] st)
 |n+1,rs,ow,e::l,st=>bindR (gB cx n rs ow e st) fun v st=>bindR (mF cx n rs ow l st) fun vs st=>some (.val (v::vs) st)
def qI (cx:Cx):Nat→(cR→Bool×Int)→List Int→Int→List Ex→RS→Option (Rz Int)
 |0,_,_,_,_,_=>none
 |n+1,rs,ow,i,l,st=>if i<0 then none else match cx.funs[i.toNat]? with
  |none=>none
  |some f=>if f.words<l.length then none else bindR (mF cx n rs ow l st) fun vs st=>bindR (some (eQ cx st)) fun _ st=>
   bindR (iH cx n f.res (vs++List.replicate (f.words-l.length) 0) f.body st) fun r st=>some (.val (r.1.getD 0) st)
def kQ (cx:Cx):Nat→(cR→Bool×Int)→List Int→Sm→RS→Option (Rz (Option Int×List Int))
 |0,_,_,_,_=>none
 |n+1,rs,ow, .mk k s l t u,st=>
  if k=1 then match l[0]? with
   |none=>none
   |some a=>bindR (gB cx n rs ow a st) fun v st=>(yV (rs s) v ow st).map fun p=> .val (none,p.1) p.2
  else if k=2 then match l[0]?,l[1]? with
   |some a,some b=>bindR (gB cx n rs ow a st) fun x st=>bindR (gB cx n rs ow b st) fun v st=>if 0≤(rs s).2 then bindR (Oe (rs s).2 x st) fun j st=>some (.val (none,ow) (rA (rs s).2 j v st))else none
   |_,_=>none
  else if k=3 then match l[0]? with
   |none=>none
   |some a=>bindR (gB cx n rs ow a st) fun v st=>bindR (some (kX v st)) fun _ st=>some (.val (none,ow) st)
  else if k=4 then match l[0]? with
   |none=>none
   |some a=>bindR (gB cx n rs ow a st) fun v st=>if v=0 then iH cx n rs ow u st else iH cx n rs ow t st
  else if k=5 then match l[0]? with
   |none=>none
   |some a=>rL cx n rs ow a t st
  else if k=6 then bindR (qI cx n rs ow (rs s).2 l st) fun _ st=>some (.val (none,ow) st)
  else if k=7 then match l[0]? with
   |none=>some (.val (some 0,ow) st)
   |some a=>bindR (gB cx n rs ow a st) fun v st=>some (.val (some v,ow) st)
  else some (.val (none,ow) st)
def iH (cx:Cx):Nat→(cR→Bool×Int)→List Int→List Sm→RS→Option (Rz (Option Int×List Int))
 |0,_,_,_,_=>none
 |_+1,_,ow,[],st=>some (.val (none,ow) st)
 |n+1,rs,ow,s::l,st=>bindR (kQ cx n rs ow s st) fun r st=>match r.1 with
  |some v=>some (.val (some v,r.2) st)
  |none=>iH cx n rs r.2 l st
def rL (cx:Cx):Nat→(cR→Bool×Int)→List Int→Ex→List Sm→RS→Option (Rz (Option Int×List Int))
 |0,_,_,_,_,_=>none
 |n+1,rs,ow,c,t,st=>bindR (some (eQ cx st)) fun _ st=>bindR (gB cx n rs ow c st) fun x st=>if x=0 then some (.val (none,ow) st)else
  bindR (iH cx n rs ow t st) fun r st=>match r.1 with
  |some v=>some (.val (some v,r.2) st)
  |none=>rL cx n rs r.2 c t st
end
end Go.Al
namespace Go.Al
def dF {α:Type} (x y:Option α):Prop:= ∀o,x=some o→y=some o
theorem dF.refl {α:Type} (x:Option α):dF x x:=fun _ h=>h
theorem dF.none {α:Type} (y:Option α):dF none y:=fun _ h=>by cases h
theorem dF.bindR {α β:Type} {x y:Option (Rz α)} {f g:α→RS→Option (Rz β)} (h:dF x y) (hf: ∀a s,dF (f a s) (g a s)):dF (bindR x f) (bindR y g):=fun o ho=>by
 cases x with
 |none=>cases ho
 |some r=>
  have:=h r rfl;subst this
  cases r with
  |val a s=>exact hf a s o ho
  |fin e s=>exact ho
theorem dF.ite {α:Type} {c:Prop} [Decidable c] {x y x' y':Option α} (h:dF x x') (h':dF y y'):dF (if c then x else y) (if c then x' else y'):=by
 split
 ·exact h
 exact h'
structure Deep (cx:Cx) (n:Nat):Prop where
 E: ∀rs ow e st,dF (gB cx n rs ow e st) (gB cx (n+1) rs ow e st)
 A: ∀rs ow l st,dF (mF cx n rs ow l st) (mF cx (n+1) rs ow l st)
 C: ∀rs ow i l st,dF (qI cx n rs ow i l st) (qI cx (n+1) rs ow i l st)
 S: ∀rs ow e st,dF (kQ cx n rs ow e st) (kQ cx (n+1) rs ow e st)
 L: ∀rs ow l st,dF (iH cx n rs ow l st) (iH cx (n+1) rs ow l st)
 W: ∀rs ow c t st,dF (rL cx n rs ow c t st) (rL cx (n+1) rs ow c t st)
theorem cI (cx:Cx) (n:Nat):Deep cx n:=by
 induction n with
 |zero=>
  constructor
  all_goals
   intros
   intro o h;simp [gB,mF,qI,kQ,iH,rL]at h
 |succ n ih=>
  obtain⟨hE,hA,hC,hS,hL,hW⟩:=ih;constructor
  ·rintro rs ow ⟨k,o,m,s,l⟩ st
   simp only[gB];refine dF.ite (dF.refl _) (dF.ite (dF.refl _) (dF.ite ?_ (dF.ite (hC _ _ _ _ _) (dF.ite (dF.refl _) ?_))))
   ·cases l[0]? with
    |none=>exact dF.refl _
    |some a=>exact dF.bindR (hE _ _ _ _) fun _ _=>dF.refl _
   cases l[0]? with
   |none=>exact dF.refl _
   |some a=>
    refine dF.ite (dF.bindR (hE _ _ _ _) fun _ _=>dF.refl _) ?_
    cases l[1]? with
    |none=>exact dF.refl _
    |some b=>
     refine dF.ite (dF.bindR (hE _ _ _ _) fun _ _=>dF.bindR (hE _ _ _ _) fun _ _=>dF.refl _) ?_;exact dF.bindR (hE _ _ _ _) fun _ _=>dF.ite (dF.refl _) (hE _ _ _ _)
  ·intro rs ow l st
   cases l with
   |nil=>simp only[mF];exact dF.refl _
   |cons e l=>
    simp only[mF];exact dF.bindR (hE _ _ _ _) fun _ _=>dF.bindR (hA _ _ _ _) fun _ _=>dF.refl _
  ·intro rs ow i l st
   simp only[qI];refine dF.ite (dF.refl _) ?_
   cases cx.funs[i.toNat]? with
   |none=>exact dF.refl _
   |some f=>exact dF.ite (dF.refl _) (dF.bindR (hA _ _ _ _) fun _ _=>dF.bindR (dF.refl _) fun _ _=>dF.bindR (hL _ _ _ _) fun _ _=>dF.refl _)
  ·rintro rs ow ⟨k,s,l,t,u⟩ st
   simp only[kQ];refine dF.ite ?_ (dF.ite ?_ (dF.ite ?_ (dF.ite ?_ (dF.ite ?_ (dF.ite ?_ (dF.ite ?_ (dF.refl _)))))))
   ·cases l[0]? with
    |none=>exact dF.refl _
    |some a=>exact dF.bindR (hE _ _ _ _) fun _ _=>dF.refl _
   ·cases l[0]? with
    |none=>exact dF.refl _
    |some a=>
     cases l[1]? with
     |none=>exact dF.refl _
     |some b=>exact dF.bindR (hE _ _ _ _) fun _ _=>dF.bindR (hE _ _ _ _) fun _ _=>dF.refl _
   ·cases l[0]? with
    |none=>exact dF.refl _
    |some a=>exact dF.bindR (hE _ _ _ _) fun _ _=>dF.refl _
   ·cases l[0]? with
    |none=>exact dF.refl _
    |some a=>exact dF.bindR (hE _ _ _ _) fun _ _=>dF.ite (hL _ _ _ _) (hL _ _ _ _)
   ·cases l[0]? with
    |none=>exact dF.refl _
    |some a=>exact hW _ _ _ _ _
   ·exact dF.bindR (hC _ _ _ _ _) fun _ _=>dF.refl _
   cases l[0]? with
   |none=>exact dF.refl _
   |some a=>exact dF.bindR (hE _ _ _ _) fun _ _=>dF.refl _
  ·intro rs ow l st
   cases l with
   |nil=>simp only[iH];exact dF.refl _
   |cons s l=>
    simp only[iH];refine dF.bindR (hS _ _ _ _) fun r st=>?_
    cases r.1 with
    |some v=>exact dF.refl _
    |none=>exact hL _ _ _ _
  intro rs ow c t st;simp only[rL];refine dF.bindR (dF.refl _) fun _ st=>dF.bindR (hE _ _ _ _) fun x st=>dF.ite (dF.refl _) (dF.bindR (hL _ _ _ _) fun r st=>?_)
  cases r.1 with
  |some v=>exact dF.refl _
  |none=>exact hW _ _ _ _ _
theorem mN {α:Type} {f:Nat→Option α} (h: ∀n,dF (f n) (f (n+1))) {n m:Nat} (hm:n≤m):dF (f n) (f m):=by
 induction m with
 |zero=>obtain rfl:n=0:=by omega
        exact dF.refl _
 |succ m ih=>
  rcases Nat.lt_or_ge m n with h1|h1
  ·obtain rfl:n=m+1:=by omega
   exact dF.refl _
  exact fun o ho=>h m o (ih h1 o ho)
theorem sE {cx:Cx} {n m:Nat} (hm:n≤m) {rs ow e st o} (h:gB cx n rs ow e st=some o):gB cx m rs ow e st=some o:=mN (f:=fun n=>gB cx n rs ow e st) (fun n=>(cI cx n).E _ _ _ _) hm o h
theorem Fl {cx:Cx} {n m:Nat} (hm:n≤m) {rs ow e st o} (h:kQ cx n rs ow e st=some o):kQ cx m rs ow e st=some o:=mN (f:=fun n=>kQ cx n rs ow e st) (fun n=>(cI cx n).S _ _ _ _) hm o h
theorem Fo {cx:Cx} {n m:Nat} (hm:n≤m) {rs ow e st o} (h:iH cx n rs ow e st=some o):iH cx m rs ow e st=some o:=mN (f:=fun n=>iH cx n rs ow e st) (fun n=>(cI cx n).L _ _ _ _) hm o h
end Go.Al
namespace Go.Al
def eY {α:Type} (f:Nat→Option (Rz α)) (P:α→RS→Prop):Prop:= ∃n r,f n=some r∧ ∀a s,r= .val a s→P a s
def eF {α:Type} (f:Nat→Option α):Prop:= ∀n,dF (f n) (f (n+1))
theorem eF.const {α:Type} (x:Option α):eF fun _=>x:=fun _=>dF.refl _
theorem eY.const {α:Type} {x:Rz α} {P:α→RS→Prop} (h: ∀a s,x= .val a s→P a s):eY (fun _=>some x) P:=⟨0,x,rfl,h⟩
theorem eY.mono {α:Type} {f:Nat→Option (Rz α)} {P Q:α→RS→Prop} (h:eY f P) (hp: ∀a s,P a s→Q a s):eY f Q:=by
 obtain⟨n,r,h1,h2⟩:=h;exact⟨n,r,h1,fun a s e=>hp a s (h2 a s e)⟩
theorem eY.bind {α β:Type} {f:Nat→Option (Rz α)} {g:α→RS→Nat→Option (Rz β)} {P:α→RS→Prop} {Q:β→RS→Prop} (h:eY f P) (hf:eF f) (hg: ∀a s,eF (g a s)) (h2: ∀a s,P a s→eY (g a s) Q):eY (fun n=>bindR (f n) fun a s=>g a s n) Q:=by
 obtain⟨n,r,h1,hP⟩:=h
 cases r with
 |fin e s=>exact⟨n, .fin e s,by simp only[h1,bindR],fun a s e=>by cases e⟩
 |val a s=>
  obtain⟨m,r,h3,hQ⟩:=h2 a s (hP a s rfl);refine⟨max n m,r, ?_,hQ⟩;have e1:=mN hf (Nat.le_max_left n m) _ h1;have e2:=mN (hg a s) (Nat.le_max_right n m) _ h3;simp only[e1,bindR];exact e2
theorem eY.ite {α:Type} {c:Prop} [Decidable c] {f g:Nat→Option (Rz α)} {P:α→RS→Prop} (h1:c→eY f P) (h2: ¬c→eY g P):eY (fun n=>if c then f n else g n) P:=by
 by_cases h:c
 ·obtain⟨n,r,e,hp⟩:=h1 h;exact⟨n,r,by simp only[if_pos h,e],hp⟩
 obtain⟨n,r,e,hp⟩:=h2 h;exact⟨n,r,by simp only[if_neg h,e],hp⟩
theorem eY.succ {α:Type} {f g:Nat→Option (Rz α)} {P:α→RS→Prop} (h:eY f P) (he: ∀n,g (n+1)=f n):eY g P:=by
 obtain⟨n,r,h1,h2⟩:=h;exact⟨n+1,r,by rw[he,h1],h2⟩
theorem mE (cx:Cx) (rs ow e st):eF fun n=>gB cx n rs ow e st:=fun n=>(cI cx n).E _ _ _ _
theorem mA (cx:Cx) (rs ow e st):eF fun n=>mF cx n rs ow e st:=fun n=>(cI cx n).A _ _ _ _
theorem mC (cx:Cx) (rs ow i e st):eF fun n=>qI cx n rs ow i e st:=fun n=>(cI cx n).C _ _ _ _ _
theorem mS (cx:Cx) (rs ow e st):eF fun n=>kQ cx n rs ow e st:=fun n=>(cI cx n).S _ _ _ _
theorem mL (cx:Cx) (rs ow e st):eF fun n=>iH cx n rs ow e st:=fun n=>(cI cx n).L _ _ _ _
theorem mW (cx:Cx) (rs ow c e st):eF fun n=>rL cx n rs ow c e st:=fun n=>(cI cx n).W _ _ _ _ _
theorem eF.bind {α β:Type} {f:Nat→Option (Rz α)} {g:α→RS→Nat→Option (Rz β)} (hf:eF f) (hg: ∀a s,eF (g a s)):eF fun n=>bindR (f n) fun a s=>g a s n:=fun n=>dF.bindR (hf n) fun a s=>hg a s n
theorem eF.ite {α:Type} {c:Prop} [Decidable c] {f g:Nat→Option α} (hf:eF f) (hg:eF g):eF fun n=>if c then f n else g n:=fun n=>dF.ite (hf n) (hg n)
def Oz (cx:Cx) (nv i:Nat) (p:Bool×Int):Prop:=0≤p.2∧(p.1=true→ ∀f,cx.funs[i]?=some f→p.2<f.words)∧(p.1=false→p.2<nv)
def Cl (cx:Cx) (i:Nat) (p:Bool×Int) (k:Nat):Prop:=0≤p.2∧p.2<i∧ ∃f,cx.funs[p.2.toNat]?=some f∧k≤f.words
mutual
def A5 (cx:Cx) (nv na i:Nat) (rs:cR→Bool×Int):Ex→Prop
 | .mk k _ _ s l=>(k=2→Oz cx nv i (rs s))∧(k=3→0≤(rs s).2∧(rs s).2<na∧1≤l.length)∧(k=4→Cl cx i (rs s) l.length)∧(k=7→1≤l.length)∧(k≠1→k≠2→k≠3→k≠4→k≠5→k≠7→2≤l.length)∧qY cx nv na i rs l
def qY (cx:Cx) (nv na i:Nat) (rs:cR→Bool×Int):List Ex→Prop
 |[]=>True
 |e::l=>A5 cx nv na i rs e∧qY cx nv na i rs l
end
mutual
def Zw (cx:Cx) (nv na i:Nat) (rs:cR→Bool×Int):Sm→Prop
 | .mk k s l t u=>(k=1→Oz cx nv i (rs s))∧(k=2→0≤(rs s).2∧(rs s).2<na∧2≤l.length)∧(k=6→Cl cx i (rs s) l.length)∧(k=1∨k=3∨k=4∨k=5→1≤l.length)∧qY cx nv na i rs l∧vO cx nv na i rs t∧vO cx nv na i rs u
def vO (cx:Cx) (nv na i:Nat) (rs:cR→Bool×Int):List Sm→Prop
 |[]=>True
 |e::l=>Zw cx nv na i rs e∧vO cx nv na i rs l
end
theorem oY {cx:Cx} {nv na i:Nat} {rs:cR→Bool×Int}: ∀{l:List Ex},qY cx nv na i rs l→ ∀{j:Nat} {e:Ex},l[j]?=some e→A5 cx nv na i rs e∧e.sz≤iJ l
 |[],_,j,e,h=>by simp at h
 |x::l,hw,0,e,h=>by
  simp only[qY]at hw;simp only[List.getElem?_cons_zero,Option.some.injEq]at h;subst h;exact⟨hw.1,by simp only[iJ];omega⟩
 |x::l,hw,j+1,e,h=>by
  simp only[qY]at hw;simp only[List.getElem?_cons_succ]at h;have:=oY hw.2 h;exact⟨this.1,by simp only[iJ];omega⟩
structure Fm (nv na t:Nat) (s:RS):Prop where
 v:s.vars.length=nv
 a:s.arrs.length=na
 t:t≤s.ticks
theorem Fm.self {nv na t:Nat} {s:RS} (h:Fm nv na t s):Fm nv na s.ticks s:=⟨h.v,h.a,aY _⟩
theorem Fm.trans {nv na t t':Nat} {s:RS} (ht:t≤t') (h:Fm nv na t' s):Fm nv na t s:=⟨h.v,h.a,Nat.le_trans ht h.t⟩
def Ti (cx:Cx) (nv na j:Nat):Prop:= ∀f,cx.funs[j]?=some f→ ∀(ow:List Int) (st:RS),ow.length=f.words→st.vars.length=nv→st.arrs.length=na→
 eY (fun n=>iH cx n f.res ow f.body st) (fun _ s=>Fm nv na st.ticks s)
section
variable {cx : Cx} {nv na i : Nat} {f : Cf} (hf : cx.funs[i]? = some f) (hb : ∀ j, j < i → Ti cx nv na j)
include hf hb
theorem B8 (N:Nat):(∀e:Ex,e.sz≤N→A5 cx nv na i f.res e→ ∀(ow:List Int) (st:RS) (t:Nat),ow.length=f.words→Fm nv na t st→eY (fun n=>gB cx n f.res ow e st) (fun _ s=>Fm nv na t s)):=by
 induction N with
 |zero=>intro e he;have:=e.sz_eq;omega
 |succ N ih=>
  have ihA: ∀l:List Ex,iJ l≤N→qY cx nv na i f.res l→ ∀(ow:List Int) (st:RS) (t:Nat),ow.length=f.words→Fm nv na t st→eY (fun n=>mF cx n f.res ow l st) (fun vs s=>Fm nv na t s∧vs.length=l.length):=by
   intro l
   induction l with
   |nil=>intro _ _ ow st t ho hF;exact eY.succ (f:=fun _=>some (.val [] st)) (eY.const fun a s e=>by cases e;exact⟨hF,rfl⟩) fun n=>by simp only[mF]
   |cons e l ihl=>
    intro hs hw ow st t ho hF;simp only[iJ]at hs;simp only[qY]at hw;refine eY.succ (f:=fun n=>bindR (gB cx n f.res ow e st) fun v st=>bindR (mF cx n f.res ow l st) fun vs st=>some (.val (v::vs) st)) ?_ fun n=>by simp only[mF]
    refine eY.bind (ih e (by omega) hw.1 ow st t ho hF) (mE _ _ _ _ _) (fun a s=>eF.bind (mA _ _ _ _ _) fun _ _=>eF.const _) fun a s h1=>?_;refine eY.bind (ihl (by omega) hw.2 ow s t ho h1) (mA _ _ _ _ _) (fun _ _=>eF.const _) fun vs s2 h2=>?_;exact eY.const fun a s e=>by cases e;exact⟨h2.1,by simp [h2.2]⟩
  rintro⟨k,o,m,s,l⟩ he hw ow st t ho hF;simp only[A5]at hw;obtain⟨w2,w3,w4,w7,w6,wl⟩:=hw;simp only[Ex.sz]at he
  have kid: ∀{j:Nat} {a:Ex},l[j]?=some a→ ∀(st:RS) (t:Nat),Fm nv na t st→eY (fun n=>gB cx n f.res ow a st) (fun _ s=>Fm nv na t s):=fun {j a} hj st t hF=>by
   have:=oY wl hj;exact ih a (by omega) this.1 ow st t ho hF
  have get: ∀{j:Nat},j<l.length→ ∃a,l[j]?=some a:=fun {j} h=>⟨l[j],aG h⟩;refine eY.succ (f:=fun n=>gB cx (n+1) f.res ow (.mk k o m s l) st) ?_ fun n=>rfl;simp only[gB];refine eY.ite (fun h1=>eY.const fun a s e=>by cases e;exact hF) fun h1=>eY.ite (fun h2=>?_) fun h2=>eY.ite (fun h3=>?_) fun h3=>eY.ite (fun h4=>?_) fun h4=>eY.ite (fun h5=>eY.const fun a s e=>?_) fun h5=>?_
  ·obtain⟨q1,q2,q3⟩:=w2 h2
   have : ∃v,uM (f.res s) ow st=some v:=by
    unfold uM;rw[if_pos q1]
    cases hb:(f.res s).1 with
    |true=>
     have:=q2 hb f hf;exact⟨_,aG (by omega)⟩
    |false=>
     have:=q3 hb;have:=hF.v;exact⟨_,aG (by omega)⟩
   obtain⟨v,hv⟩:=this;rw[hv];exact eY.const fun a s e=>by cases e;exact hF
  ·obtain⟨q1,q2,q3⟩:=w3 h3
   obtain⟨a,ha⟩:=get (j:=0) (by omega);simp only[ha];refine eY.bind (kid ha st t hF) (mE _ _ _ _ _) (fun _ _=>eF.const _) fun x s1 h6=>?_;rw[if_pos q1];have hl:(f.res s).2.toNat<s1.arrs.length:=by have:=h6.a;omega
   unfold Oe;rw[aG hl];simp only;generalize hr:s1.arrs[(f.res s).2.toNat]=r;by_cases hx:x.toNat<r.length
   ·simp only[hx,if_true,bindR,aG hl,hr,Option.bind_some]
    rw[aG hx];exact eY.const fun a s e=>by cases e;exact h6
   simp only[hx,if_false,bindR];exact eY.const fun a s e=>by cases e
  ·obtain⟨q1,q2,g,hg,q3⟩:=w4 h4
   refine eY.succ (f:=fun n=>qI cx (n+1) f.res ow (f.res s).2 l st) ?_ fun n=>rfl;simp only[qI,if_neg (show ¬(f.res s).2<0 by omega),hg,if_neg (show ¬g.words<l.length by omega)];refine eY.bind (ihA l (by omega) wl ow st t ho hF) (mA _ _ _ _ _) (fun a s=>eF.bind (eF.const _) fun _ _=>eF.bind (mL _ _ _ _ _) fun _ _=>eF.const _) fun vs s1 h6=>?_;refine eY.bind (P:=fun _ s=>Fm nv na t s) (eY.const fun a s e=>?_) (eF.const _) (fun _ _=>eF.bind (mL _ _ _ _ _) fun _ _=>eF.const _) fun _ s2 h7=>?_
   ·unfold eQ at e
    split at e
    ·cases e
    cases e;exact⟨h6.1.v,h6.1.a,by have:=h6.1.t;simp only;omega⟩
   refine eY.bind (hb _ (by omega) g hg _ s2 (by simp [h6.2];omega) h7.v h7.a) (mL _ _ _ _ _) (fun _ _=>eF.const _) fun r s3 h8=>?_;exact eY.const fun a s e=>by cases e;exact h8.trans h7.t
  ·unfold lW at e
   split at e
   ·cases e;exact⟨hF.v,hF.a,hF.t⟩
   cases e;exact hF
  have h0:1≤l.length:=by
   by_cases h7:k=7
   ·exact w7 h7
   have:=w6 h1 h2 h3 h4 h5 h7;omega
  obtain⟨a,ha⟩:=get (j:=0) (by omega);simp only[ha];refine eY.ite (fun h7=>?_) fun h7=>?_
  ·refine eY.bind (kid ha st t hF) (mE _ _ _ _ _) (fun _ _=>eF.const _) fun x s1 h6=>?_
   exact eY.const fun a s e=>by cases e;exact h6
  obtain⟨b,hb'⟩:=get (j:=1) (by have:=w6 h1 h2 h3 h4 h5 h7;omega);simp only[hb'];refine eY.ite (fun h6=>?_) fun h6=>?_
  ·refine eY.bind (kid ha st t hF) (mE _ _ _ _ _) (fun _ _=>eF.bind (mE _ _ _ _ _) fun _ _=>eF.const _) fun x s1 h8=>?_
   refine eY.bind (kid hb' s1 t h8) (mE _ _ _ _ _) (fun _ _=>eF.const _) fun y s2 h9=>?_;split
   ·exact eY.const fun a s e=>by cases e;exact h9
   exact eY.const fun a s e=>by cases e
  refine eY.bind (kid ha st t hF) (mE _ _ _ _ _) (fun _ _=>eF.ite (eF.const _) (mE _ _ _ _ _)) fun x s1 h8=>?_;exact eY.ite (fun _=>eY.const fun a s e=>by cases e;exact h8) fun _=>kid hb' s1 t h8
end
end Go.Al
namespace Go.Al
structure Fs (nv na w t:Nat) (r:Option Int×List Int) (s:RS):Prop where
 f:Fm nv na t s
 w:r.2.length=w
section
variable {cx : Cx} {nv na i : Nat} {f : Cf} (hf : cx.funs[i]? = some f) (hb : ∀ j, j < i → Ti cx nv na j)
include hf hb
theorem I2: ∀l:List Ex,qY cx nv na i f.res l→ ∀(ow:List Int) (st:RS) (t:Nat),ow.length=f.words→Fm nv na t st→eY (fun n=>mF cx n f.res ow l st) (fun vs s=>Fm nv na t s∧vs.length=l.length):=by
 intro l
 induction l with
 |nil=>intro _ ow st t ho hF;exact eY.succ (f:=fun _=>some (.val [] st)) (eY.const fun a s e=>by cases e;exact⟨hF,rfl⟩) fun n=>by simp only[mF]
 |cons e l ihl=>
  intro hw ow st t ho hF;simp only[qY]at hw;refine eY.succ (f:=fun n=>bindR (gB cx n f.res ow e st) fun v st=>bindR (mF cx n f.res ow l st) fun vs st=>some (.val (v::vs) st)) ?_ fun n=>by simp only[mF]
  refine eY.bind (B8 hf hb e.sz e (aY _) hw.1 ow st t ho hF) (mE _ _ _ _ _) (fun a s=>eF.bind (mA _ _ _ _ _) fun _ _=>eF.const _) fun a s h1=>?_;refine eY.bind (ihl hw.2 ow s t ho h1) (mA _ _ _ _ _) (fun _ _=>eF.const _) fun vs s2 h2=>?_;exact eY.const fun a s e=>by cases e;exact⟨h2.1,by simp [h2.2]⟩
theorem I1 (l:List Ex) (wl:qY cx nv na i f.res l) {p:Bool×Int} (hc:Cl cx i p l.length) (ow:List Int) (st:RS) (t:Nat) (ho:ow.length=f.words) (hF:Fm nv na t st):eY (fun n=>qI cx n f.res ow p.2 l st) (fun _ s=>Fm nv na t s):=by
 obtain⟨q1,q2,g,hg,q3⟩:=hc;refine eY.succ (f:=fun n=>qI cx (n+1) f.res ow p.2 l st) ?_ fun n=>rfl;simp only[qI,if_neg (show ¬p.2<0 by omega),hg,if_neg (show ¬g.words<l.length by omega)];refine eY.bind (I2 hf hb l wl ow st t ho hF) (mA _ _ _ _ _) (fun a s=>eF.bind (eF.const _) fun _ _=>eF.bind (mL _ _ _ _ _) fun _ _=>eF.const _) fun vs s1 h6=>?_;refine eY.bind (P:=fun _ s=>Fm nv na t s) (eY.const fun a s e=>?_) (eF.const _) (fun _ _=>eF.bind (mL _ _ _ _ _) fun _ _=>eF.const _) fun _ s2 h7=>?_
 ·unfold eQ at e
  split at e
  ·cases e
  cases e;exact⟨h6.1.v,h6.1.a,by have:=h6.1.t;simp only;omega⟩
 refine eY.bind (hb _ (by omega) g hg _ s2 (by simp [h6.2];omega) h7.v h7.a) (mL _ _ _ _ _) (fun _ _=>eF.const _) fun r s3 h8=>?_;exact eY.const fun a s e=>by cases e;exact h8.trans h7.t
theorem I0 (M:Nat): ∀N:Nat,(∀e:Sm,e.sz≤N→Zw cx nv na i f.res e→ ∀(ow:List Int) (st:RS),ow.length=f.words→st.vars.length=nv→st.arrs.length=na→cx.fuel-st.ticks≤M→eY (fun n=>kQ cx n f.res ow e st) (Fs nv na f.words st.ticks))∧
  (∀l:List Sm,gA l<N→vO cx nv na i f.res l→ ∀(ow:List Int) (st:RS),ow.length=f.words→st.vars.length=nv→st.arrs.length=na→cx.fuel-st.ticks≤M→eY (fun n=>iH cx n f.res ow l st) (Fs nv na f.words st.ticks)):=by
 induction M using Nat.strongRecOn with
 |_ M ihM=>
 intro N
 induction N with
 |zero=>exact⟨fun e he=>by have:=e.sz_eq;omega,fun l hl=>by omega⟩
 |succ N ih=>
  obtain⟨ihS,ihL⟩:=ih;have fself: ∀st:RS,st.vars.length=nv→st.arrs.length=na→Fm nv na st.ticks st:=fun st h1 h2=>⟨h1,h2,aY _⟩
  have one: ∀e:Sm,e.sz≤N+1→Zw cx nv na i f.res e→ ∀(ow:List Int) (st:RS),ow.length=f.words→st.vars.length=nv→st.arrs.length=na→cx.fuel-st.ticks≤M→eY (fun n=>kQ cx n f.res ow e st) (Fs nv na f.words st.ticks):=by
   rintro⟨k,s,l,t,u⟩ he hw ow st ho hv ha hM;simp only[Zw]at hw;obtain⟨w1,w2,w6,wk,wl,wt,wu⟩:=hw;simp only[Sm.sz]at he;have hF:=fself st hv ha
   have kid: ∀{j:Nat} {a:Ex},l[j]?=some a→ ∀(st:RS) (t:Nat),Fm nv na t st→eY (fun n=>gB cx n f.res ow a st) (fun _ s=>Fm nv na t s):=fun {j a} hj st t hF=>by
    have:=oY wl hj;exact B8 hf hb a.sz a (aY _) this.1 ow st t ho hF
   have get: ∀{j:Nat},j<l.length→ ∃a,l[j]?=some a:=fun {j} h=>⟨l[j],aG h⟩;refine eY.succ (f:=fun n=>kQ cx (n+1) f.res ow (.mk k s l t u) st) ?_ fun n=>rfl;simp only[kQ];refine eY.ite (fun h1=>?_) fun h1=>eY.ite (fun h2=>?_) fun h2=>eY.ite (fun h3=>?_) fun h3=>eY.ite (fun h4=>?_) fun h4=>eY.ite (fun h5=>?_) fun h5=>eY.ite (fun h6=>?_) fun h6=>eY.ite (fun h7=>?_) fun h7=>eY.const fun a s e=>by cases e;exact⟨hF,ho⟩
   ·obtain⟨a,ha'⟩:=get (j:=0) (by have:=wk (.inl h1);omega)
    simp only[ha'];refine eY.bind (kid ha' st st.ticks hF) (mE _ _ _ _ _) (fun _ _=>eF.const _) fun v s1 h8=>?_;obtain⟨q1,q2,q3⟩:=w1 h1;unfold yV;rw[if_pos q1]
    cases hb:(f.res s).1 with
    |true=>
     have:=q2 hb f hf;rw[if_pos rfl,if_pos (by omega)];exact eY.const fun a s e=>by cases e;exact⟨h8,by simp [ho]⟩
    |false=>
     have:=q3 hb;have:=h8.v;rw[if_neg (by simp),if_pos (by omega)];exact eY.const fun a s e=>by cases e;exact⟨⟨by simp [h8.v],h8.a,h8.t⟩,ho⟩
   ·obtain⟨q1,q2,q3⟩:=w2 h2
    obtain⟨a,ha'⟩:=get (j:=0) (by omega);obtain⟨b,hb'⟩:=get (j:=1) (by omega);simp only[ha',hb'];refine eY.bind (kid ha' st st.ticks hF) (mE _ _ _ _ _) (fun _ _=>eF.bind (mE _ _ _ _ _) fun _ _=>eF.const _) fun x s1 h8=>?_;refine eY.bind (kid hb' s1 st.ticks h8) (mE _ _ _ _ _) (fun _ _=>eF.const _) fun v s2 h9=>?_;rw[if_pos q1];have hl:(f.res s).2.toNat<s2.arrs.length:=by have:=h9.a;omega
    unfold Oe;rw[aG hl];simp only;split
    ·simp only[bindR]
     exact eY.const fun a s e=>by cases e;exact⟨⟨h9.v,by simp [rA,h9.a],h9.t⟩,ho⟩
    simp only[bindR];exact eY.const fun a s e=>by cases e
   ·obtain⟨a,ha'⟩:=get (j:=0) (by have:=wk (.inr (.inl h3));omega)
    simp only[ha'];refine eY.bind (kid ha' st st.ticks hF) (mE _ _ _ _ _) (fun _ _=>eF.const _) fun v s1 h8=>?_;unfold kX;split
    ·simp only[bindR]
     exact eY.const fun a s e=>by cases e
    simp only[bindR];exact eY.const fun a s e=>by cases e;exact⟨⟨h8.v,h8.a,h8.t⟩,ho⟩
   ·obtain⟨a,ha'⟩:=get (j:=0) (by have:=wk (.inr (.inr (.inl h4)));omega)
    simp only[ha'];refine eY.bind (kid ha' st st.ticks hF) (mE _ _ _ _ _) (fun _ _=>eF.ite (mL _ _ _ _ _) (mL _ _ _ _ _)) fun v s1 h8=>?_;have:=h8.t;have q1:=(oY wl ha').2;have q2:=a.sz_eq;exact eY.ite (fun _=>(ihL u (by omega) wu ow s1 ho h8.v h8.a (by have:=h8.t;omega)).mono fun r s h=>⟨h.f.trans h8.t,h.w⟩) fun _=>(ihL t (by omega) wt ow s1 ho h8.v h8.a (by have:=h8.t;omega)).mono fun r s h=>⟨h.f.trans h8.t,h.w⟩
   ·obtain⟨a,ha'⟩:=get (j:=0) (by have:=wk (.inr (.inr (.inr h5)));omega)
    simp only[ha'];refine eY.succ (f:=fun n=>rL cx (n+1) f.res ow a t st) ?_ fun n=>rfl;simp only[rL];refine eY.bind (P:=fun _ s=>s.vars.length=nv∧s.arrs.length=na∧st.ticks<s.ticks∧cx.fuel-s.ticks<M) (eY.const fun a s e=>?_) (eF.const _) (fun _ _=>eF.bind (mE _ _ _ _ _) fun _ _=>eF.ite (eF.const _) (eF.bind (mL _ _ _ _ _) fun r _=>?_)) fun _ s1 ⟨g1,g2,g3,g4⟩=>?_
    ·unfold eQ at e
     split at e
     ·cases e
     cases e;exact⟨hv,ha,by simp,by simp only;omega⟩
    ·cases r.1 with
     |some v=>exact eF.const _
     |none=>exact mW _ _ _ _ _ _
    refine eY.bind (kid ha' s1 s1.ticks (fself s1 g1 g2)) (mE _ _ _ _ _) (fun _ _=>eF.ite (eF.const _) (eF.bind (mL _ _ _ _ _) fun r _=>?_)) fun x s2 h8=>?_
    ·cases r.1 with
     |some v=>exact eF.const _
     |none=>exact mW _ _ _ _ _ _
    have h8t:=h8.t;refine eY.ite (fun _=>eY.const fun a s e=>by cases e;exact⟨h8.trans (by omega),ho⟩) fun _=>?_;refine eY.bind ((ihM (cx.fuel-s2.ticks) (by omega) (gA t+1)).2 t (by omega) wt ow s2 ho h8.v h8.a (aY _)) (mL _ _ _ _ _) (fun r _=>?_) fun r s3 h9=>?_
    ·cases r.1 with
     |some v=>exact eF.const _
     |none=>exact mW _ _ _ _ _ _
    have h9t:=h9.f.t
    cases hr:r.1 with
    |some v=>exact eY.const fun a s e=>by cases e;exact⟨h9.f.trans (by omega),h9.w⟩
    |none=>
     have hsz:Sm.sz (.mk 5 s [a] t [])≤(Sm.mk 5 s [a] t []).sz:=aY _
     have:=(ihM (cx.fuel-s3.ticks) (by omega) (Sm.mk 5 s [a] t []).sz).1 (.mk 5 s [a] t []) hsz (by
      simp only[Zw,qY,vO]
      exact⟨fun e=>absurd e (by decide),fun e=>absurd e (by decide),fun e=>absurd e (by decide),fun _=>by simp,⟨(oY wl ha').1,trivial⟩,wt,trivial⟩) r.2 s3 h9.w h9.f.v h9.f.a (aY _)
     obtain⟨n,o,e1,e2⟩:=this
     cases n with
     |zero=>simp [kQ]at e1
     |succ n=>
      simp [kQ]at e1;exact⟨n,o,e1,fun r' s' e=>by have:=e2 r' s' e;exact⟨this.f.trans (by omega),this.w⟩⟩
   ·refine eY.bind (I1 hf hb l wl (w6 h6) ow st st.ticks ho hF) (mC _ _ _ _ _ _) (fun _ _=>eF.const _) fun v s1 h8=>?_
    exact eY.const fun a s e=>by cases e;exact⟨h8,ho⟩
   cases hl:l[0]? with
   |none=>exact eY.const fun a s e=>by cases e;exact⟨hF,ho⟩
   |some a=>
    simp only;refine eY.bind (kid hl st st.ticks hF) (mE _ _ _ _ _) (fun _ _=>eF.const _) fun v s1 h8=>?_;exact eY.const fun a s e=>by cases e;exact⟨h8,ho⟩
  refine⟨one, ?_⟩;intro l
  induction l with
  |nil=>
   intro _ _ ow st ho hv ha _;exact eY.succ (f:=fun _=>some (.val (none,ow) st)) (eY.const fun a s e=>by cases e;exact⟨fself st hv ha,ho⟩) fun n=>by simp only[iH]
  |cons e l ihl=>
   intro hs hw ow st ho hv ha hM;simp only[gA]at hs;simp only[vO]at hw;refine eY.succ (f:=fun n=>iH cx (n+1) f.res ow (e::l) st) ?_ fun n=>rfl;simp only[iH];refine eY.bind (one e (by omega) hw.1 ow st ho hv ha hM) (mS _ _ _ _ _) (fun r _=>?_) fun r s1 h1=>?_
   ·cases r.1 with
    |some v=>exact eF.const _
    |none=>exact mL _ _ _ _ _
   have h1t:=h1.f.t
   cases hr:r.1 with
   |some v=>exact eY.const fun a s e=>by cases e;exact⟨h1.f,h1.w⟩
   |none=>
    exact(ihl (by omega) hw.2 r.2 s1 h1.w h1.f.v h1.f.a (by omega)).mono fun r s h=>⟨h.f.trans h1.f.t,h.w⟩
end
theorem Zm {cx:Cx} {nv na:Nat} (h: ∀i f,cx.funs[i]?=some f→vO cx nv na i f.res f.body) (j:Nat):Ti cx nv na j:=by
 induction j using Nat.strongRecOn with
 |_ j ih=>
  intro f hf ow st ho hv ha;exact((I0 hf ih (cx.fuel-st.ticks) (gA f.body+1)).2 f.body (by omega) (h j f hf) ow st ho hv ha (aY _)).mono fun r s h=>h.f
def Cx.main (cx:Cx):Option Cf:=cx.funs[cx.funs.length- 1]?
def RS.init (nv:Nat) (sizes:List Nat):RS:=⟨List.replicate nv 0,sizes.map fun n=>List.replicate n 0,0,[],0⟩
def sF {α:Type}:Rz α→Int×cR×Nat
 | .val _ s=>(1,s.out,s.ticks)
 | .fin e s=>(e,s.out,s.ticks)
def Br (cx:Cx) (n nv:Nat) (sizes:List Nat):Option (Int×cR×Nat):=cx.main.bind fun f=>(iH cx n f.res (List.replicate f.words 0) f.body (RS.init nv sizes)).map sF
theorem Mo {cx:Cx} {nv:Nat} {sizes:List Nat} (h0:cx.funs≠[]) (h: ∀i f,cx.funs[i]?=some f→vO cx nv sizes.length i f.res f.body): ∃n r,Br cx n nv sizes=some r:=by
 have hl:cx.funs.length- 1<cx.funs.length:=by
  cases hc:cx.funs with
  |nil=>exact absurd hc h0
  |cons a l=>simp
 obtain⟨n,r,hr,_⟩:=Zm h (cx.funs.length- 1) _ (aG hl) (List.replicate (cx.funs[cx.funs.length- 1]).words 0) (RS.init nv sizes) (by simp) (by simp [RS.init]) (by simp [RS.init]);refine⟨n,sF r, ?_⟩;simp only[Br,Cx.main,aG hl,Option.bind_some];rw[show iH cx n _ _ _ _=some r from hr];rfl
end Go.Al
namespace Go.Al
structure Gw (fuel:Nat) (s s':RS):Prop where
 out:s.out<+:s'.out
 t:s.ticks≤s'.ticks
 f:s.ticks≤fuel→s'.ticks≤fuel
theorem Gw.refl (fuel:Nat) (s:RS):Gw fuel s s:=⟨List.prefix_refl _,aY _,fun h=>h⟩
theorem Gw.trans {fuel:Nat} {s s1 s2:RS} (h:Gw fuel s s1) (h':Gw fuel s1 s2):Gw fuel s s2:=⟨h.out.trans h'.out,Nat.le_trans h.t h'.t,fun x=>h'.f (h.f x)⟩
def eN {α:Type} (fuel:Nat) (s:RS) (x:Option (Rz α)):Prop:= ∀o,x=some o→Gw fuel s o.st
theorem eN.none {α:Type} (fuel:Nat) (s:RS):eN fuel s (none:Option (Rz α)):=fun _ h=>by cases h
theorem eN.val {α:Type} {fuel:Nat} {s s':RS} (h:Gw fuel s s') (a:α):eN fuel s (some (.val a s')):=fun _ e=>by cases e;exact h
theorem eN.fin {α:Type} {fuel:Nat} {s s':RS} (h:Gw fuel s s') (a:Int):eN fuel s (some (.fin a s':Rz α)):=fun _ e=>by cases e;exact h
theorem eN.bind {α β:Type} {fuel:Nat} {s:RS} {x:Option (Rz α)} {f:α→RS→Option (Rz β)} (h:eN fuel s x) (hf: ∀a s',eN fuel s' (f a s')):eN fuel s (bindR x f):=fun o ho=>by
 cases x with
 |none=>cases ho
 |some r=>
  have h1:=h r rfl
  cases r with
  |val a s'=>exact h1.trans (hf a s' o ho)
  |fin e s'=>cases ho;exact h1
theorem eN.ite {α:Type} {fuel:Nat} {s:RS} {c:Prop} [Decidable c] {x y:Option (Rz α)} (h:eN fuel s x) (h':eN fuel s y):eN fuel s (if c then x else y):=by
 split
 ·exact h
 exact h'
theorem Kj (cx:Cx) (st:RS):eN cx.fuel st (some (eQ cx st)):=by
 unfold eQ;split
 ·exact eN.fin (Gw.refl _ _) _
 exact eN.val (by exact⟨List.prefix_refl _,Nat.le_succ _,fun _=>by show st.ticks+1≤_;omega⟩) _
theorem Zc (cx:Cx) (fuel:Nat) (st:RS):eN fuel st (some (lW cx st)):=by
 unfold lW;split
 ·exact eN.val (by exact⟨List.prefix_refl _,aY _,fun h=>h⟩) _
 exact eN.val (Gw.refl _ _) _
theorem Yj (fuel:Nat) (v:Int) (st:RS):eN fuel st (some (kX v st)):=by
 unfold kX;split
 ·exact eN.fin (Gw.refl _ _) _
 exact eN.val (by exact⟨List.prefix_append _ _,aY _,fun h=>h⟩) _
theorem Xv (fuel:Nat) (i x:Int) (st:RS):eN fuel st (Oe i x st):=by
 unfold Oe;split
 ·exact eN.none _ _
 split
 ·exact eN.val (Gw.refl _ _) _
 exact eN.fin (Gw.refl _ _) _
theorem Yh (fuel:Nat) (p:Bool×Int) (v:Int) (ow:List Int) (st:RS):eN fuel st ((yV p v ow st).map fun r=>Rz.val ((none:Option Int),r.1) r.2):=by
 unfold yV;split
 ·split
  ·split
   ·exact eN.val (Gw.refl _ _) _
   exact eN.none _ _
  split
  ·exact eN.val (by exact⟨List.prefix_refl _,aY _,fun h=>h⟩) _
  exact eN.none _ _
 exact eN.none _ _
structure J4 (cx:Cx) (n:Nat):Prop where
 E: ∀rs ow e st,eN cx.fuel st (gB cx n rs ow e st)
 A: ∀rs ow l st,eN cx.fuel st (mF cx n rs ow l st)
 C: ∀rs ow i l st,eN cx.fuel st (qI cx n rs ow i l st)
 S: ∀rs ow e st,eN cx.fuel st (kQ cx n rs ow e st)
 L: ∀rs ow l st,eN cx.fuel st (iH cx n rs ow l st)
 W: ∀rs ow c t st,eN cx.fuel st (rL cx n rs ow c t st)
theorem grow (cx:Cx) (n:Nat):J4 cx n:=by
 induction n with
 |zero=>
  constructor
  all_goals
   intros
   intro o h;simp [gB,mF,qI,kQ,iH,rL]at h
 |succ n ih=>
  obtain⟨hE,hA,hC,hS,hL,hW⟩:=ih;constructor
  ·rintro rs ow ⟨k,o,m,s,l⟩ st
   simp only[gB];refine eN.ite (eN.val (Gw.refl _ _) _) (eN.ite ?_ (eN.ite ?_ (eN.ite (hC _ _ _ _ _) (eN.ite (Zc _ _ _) ?_))))
   ·cases uM (rs s) ow st with
    |none=>exact eN.none _ _
    |some v=>exact eN.val (Gw.refl _ _) _
   ·cases l[0]? with
    |none=>exact eN.none _ _
    |some a=>
     refine eN.bind (hE _ _ _ _) fun x st=>eN.ite (eN.bind (Xv _ _ _ _) fun j st=>?_) (eN.none _ _)
     cases(st.arrs[(rs s).2.toNat]?).bind fun l=>l[j]? with
     |none=>exact eN.none _ _
     |some v=>exact eN.val (Gw.refl _ _) _
   cases l[0]? with
   |none=>exact eN.none _ _
   |some a=>
    refine eN.ite (eN.bind (hE _ _ _ _) fun _ _=>eN.val (Gw.refl _ _) _) ?_
    cases l[1]? with
    |none=>exact eN.none _ _
    |some b=>
     refine eN.ite (eN.bind (hE _ _ _ _) fun _ _=>eN.bind (hE _ _ _ _) fun _ _=>eN.ite (eN.val (Gw.refl _ _) _) (eN.fin (Gw.refl _ _) _)) ?_;exact eN.bind (hE _ _ _ _) fun _ _=>eN.ite (eN.val (Gw.refl _ _) _) (hE _ _ _ _)
  ·intro rs ow l st
   cases l with
   |nil=>simp only[mF];exact eN.val (Gw.refl _ _) _
   |cons e l=>
    simp only[mF];exact eN.bind (hE _ _ _ _) fun _ _=>eN.bind (hA _ _ _ _) fun _ _=>eN.val (Gw.refl _ _) _
  ·intro rs ow i l st
   simp only[qI];refine eN.ite (eN.none _ _) ?_
   cases cx.funs[i.toNat]? with
   |none=>exact eN.none _ _
   |some f=>exact eN.ite (eN.none _ _) (eN.bind (hA _ _ _ _) fun _ _=>eN.bind (Kj _ _) fun _ _=>eN.bind (hL _ _ _ _) fun _ _=>eN.val (Gw.refl _ _) _)
  ·rintro rs ow ⟨k,s,l,t,u⟩ st
   simp only[kQ];refine eN.ite ?_ (eN.ite ?_ (eN.ite ?_ (eN.ite ?_ (eN.ite ?_ (eN.ite ?_ (eN.ite ?_ (eN.val (Gw.refl _ _) _)))))))
   ·cases l[0]? with
    |none=>exact eN.none _ _
    |some a=>exact eN.bind (hE _ _ _ _) fun _ _=>Yh _ _ _ _ _
   ·cases l[0]? with
    |none=>exact eN.none _ _
    |some a=>
     cases l[1]? with
     |none=>exact eN.none _ _
     |some b=>exact eN.bind (hE _ _ _ _) fun _ _=>eN.bind (hE _ _ _ _) fun _ st=>eN.ite (eN.bind (Xv _ _ _ _) fun _ _=>eN.val (by exact⟨List.prefix_refl _,aY _,fun h=>h⟩) _) (eN.none _ _)
   ·cases l[0]? with
    |none=>exact eN.none _ _
    |some a=>exact eN.bind (hE _ _ _ _) fun _ _=>eN.bind (Yj _ _ _) fun _ _=>eN.val (Gw.refl _ _) _
   ·cases l[0]? with
    |none=>exact eN.none _ _
    |some a=>exact eN.bind (hE _ _ _ _) fun _ _=>eN.ite (hL _ _ _ _) (hL _ _ _ _)
   ·cases l[0]? with
    |none=>exact eN.none _ _
    |some a=>exact hW _ _ _ _ _
   ·exact eN.bind (hC _ _ _ _ _) fun _ _=>eN.val (Gw.refl _ _) _
   cases l[0]? with
   |none=>exact eN.val (Gw.refl _ _) _
   |some a=>exact eN.bind (hE _ _ _ _) fun _ _=>eN.val (Gw.refl _ _) _
  ·intro rs ow l st
   cases l with
   |nil=>simp only[iH];exact eN.val (Gw.refl _ _) _
   |cons s l=>
    simp only[iH];refine eN.bind (hS _ _ _ _) fun r st=>?_
    cases r.1 with
    |some v=>exact eN.val (Gw.refl _ _) _
    |none=>exact hL _ _ _ _
  intro rs ow c t st;simp only[rL];refine eN.bind (Kj _ _) fun _ st=>eN.bind (hE _ _ _ _) fun x st=>eN.ite (eN.val (Gw.refl _ _) _) (eN.bind (hL _ _ _ _) fun r st=>?_)
  cases r.1 with
  |some v=>exact eN.val (Gw.refl _ _) _
  |none=>exact hW _ _ _ _ _
def Hi {α:Type} (F:Nat) (x y:Option (Rz α)):Prop:= ∀o,x=some o→(match o with
 | .fin e s=>(e≠5∧y=some o)∨(e=5∧F≤s.ticks∧ ∀o',y=some o'→s.out<+:o'.st.out∧s.ticks≤o'.st.ticks)
 | .val _ _=>y=some o)
section
variable {F F' : Nat}
theorem Hi.none {α:Type} (y:Option (Rz α)):Hi F none y:=fun _ h=>by cases h
theorem Hi.val {α:Type} (a:α) (s:RS):Hi F (some (.val a s)) (some (.val a s)):=fun _ h=>by cases h;rfl
theorem Hi.fin {α:Type} {e:Int} (he:e≠5) (s:RS):Hi F (some (.fin e s:Rz α)) (some (.fin e s)):=fun _ h=>by cases h;exact .inl ⟨he,rfl⟩
theorem Hi.same {α:Type} {x:Option (Rz α)} (h: ∀s,x≠some (.fin 5 s)):Hi F x x:=fun o ho=>by
 cases o with
 |val a s=>exact ho
 |fin e s=>
  refine .inl ⟨fun he=>?_,ho⟩;subst he;exact h s ho
theorem Hi.bind {α β:Type} {x y:Option (Rz α)} {f g:α→RS→Option (Rz β)} (h:Hi F x y) (hf: ∀a s,Hi F (f a s) (g a s)) (hg: ∀a s,eN F' s (g a s)):Hi F (bindR x f) (bindR y g):=fun o ho=>by
 cases x with
 |none=>cases ho
 |some r=>
  have h1:=h r rfl
  cases r with
  |val a s=>
   simp only at h1;subst h1;exact hf a s o ho
  |fin e s=>
   cases ho;simp only at h1⊢;rcases h1 with⟨he,rfl⟩|⟨he,ht,h2⟩
   ·exact .inl ⟨he,rfl⟩
   refine .inr ⟨he,ht,fun o' ho'=>?_⟩
   cases y with
   |none=>cases ho'
   |some r'=>
    have h3:=h2 r' rfl
    cases r' with
    |val a s'=>
     have h4:=hg a s' o' ho';simp only[Rz.st]at h3;exact⟨h3.1.trans h4.out,Nat.le_trans h3.2 h4.t⟩
    |fin e s'=>cases ho';exact h3
theorem Hi.ite {α:Type} {c:Prop} [Decidable c] {x y x' y':Option (Rz α)} (h:Hi F x x') (h':Hi F y y'):Hi F (if c then x else y) (if c then x' else y'):=by
 split
 ·exact h
 exact h'
end
end Go.Al
