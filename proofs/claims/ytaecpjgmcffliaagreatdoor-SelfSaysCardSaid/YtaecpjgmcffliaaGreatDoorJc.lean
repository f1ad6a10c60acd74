/- Jc -/
import Derived.Test.YtaecpjgmcffliaaGreatDoorGra
import Derived.Test.YtaecpjgmcffliaaGreatDoorBd2
import Derived.Test.YtaecpjgmcffliaaGreatDoorAl3
set_option linter.unusedSimpArgs false
set_option linter.unusedVariables false
set_option maxHeartbeats 8000000
set_option maxRecDepth 100000
namespace Go.Al
def Lt (sz:Nat) (v:AV) (rows:List (List AV)) (H:Hp):Prop:=eB sz v rows H∨v= .isl sz rows
theorem Lt.one1 {sz:Nat} {v:AV} {rows:List (List AV)} {H:Hp} (h:Lt sz v rows H):one v=true:=by
 rcases h with h|rfl
 ·exact h.one1
 rfl
theorem Lt.cells {sz:Nat} {v:AV} {rows:List (List AV)} {H:Hp} (h:Lt sz v rows H):cellsOf v=some [v]:=by
 rcases h with h|rfl
 ·exact h.cells
 rfl
theorem Lt.same {sz:Nat} {v:AV} {rows:List (List AV)} {H H':Hp} (h:Lt sz v rows H) (a: ∀b,H' b=H b):Lt sz v rows H':=by
 rcases h with h|rfl
 ·exact .inl (h.same a)
 exact .inr rfl
theorem CC {E:kC} {N:Nat} {Q:fN} {c:Code} {fr:Fr} {H:Hp} {d sz o:Nat} {yB g:List AV} {v:AV} {rows:List (List AV)} (f:Lt sz v rows H) (k:H d=some (.rows o [yB++v::g])) (D: ∀x∈yB,DJ v x) (F: ∀x∈g,DJ v x) (C: ∀s n,v≠ .osl s d n)
  (h: ∀e a,(∀j,tK (fr j)=true→e j=fr j)→a d=some (.rows o [yB++ .isl sz rows::g])→(∀b s l,b≠d→(∀s n,v≠ .osl s b n)→(l.all fun r=>r.all tK)=true→H b=some (.rows s l)→a b=some (.rows s l))→mD E N c Q e a):mD E N c Q fr H:=by
 rcases f with f|rfl
 ·refine iF f k D F (fun s n=>C s n) fun e a u y z=>h e a (fun j B=>u j (bS B)) y fun b s l p t i=>z b s l p (fun s n=>t s n) fun r G x I=>bS ?_
  simp only[dB]at i;exact i r G x I
 exact h fr H (fun _ _=>rfl) k fun b s l _ _ _ A=>A
theorem Lt.offsz {sz a:Nat} {v:AV} {rows f:List (List AV)} {H:Hp} (h:Lt sz v rows H) {b:Nat} (c:H b=some (.rows a f)) (d:a≠sz): ∀s n,v≠ .osl s b n:=by
 rcases h with h|rfl
 ·exact h.offsz c d
 intro s n e;cases e
theorem eB.offnone {sz:Nat} {v:AV} {rows:List (List AV)} {H:Hp} {b:Nat} (h:eB sz v rows H) (d:H b=none):Al.off v b:=fun s n e=>by
 rcases h with⟨rfl,_⟩|⟨c,rfl,a⟩
 ·cases e
 cases e;rw[d]at a;cases a
def eR (op a b:Int):Int×Int:=
 if op=4 then(IntKind.wrap .u32 (a+b),0)
 else if op=5 then(IntKind.wrap .u32 (a-b),0)
 else if op=6 then(IntKind.wrap .u32 (a *b),0)
 else if op=7 then(if b=0 then(0,14)else(IntKind.wrap .u32 (a.tdiv b),0))
 else if op=8 then(if b=0 then(0,14)else(a.tmod b,0))
 else if op=9 then(IntKind.wrap .u32 (BitVec.ofInt 32 a&&&BitVec.ofInt 32 b).toNat,0)
 else if op=10 then(IntKind.wrap .u32 (BitVec.ofInt 32 a|||BitVec.ofInt 32 b).toNat,0)
 else if op=11 then(IntKind.wrap .u32 (BitVec.ofInt 32 a^^^BitVec.ofInt 32 b).toNat,0)
 else if op=12 then(if 31<b then(0,0)else(IntKind.wrap .u32 (a *2^(min b.toNat 32)),0))
 else if op=13 then(if 31<b then(0,0)else(a.fdiv (2^(min b.toNat 32)),0))
 else if op=14 then((if a<b then 1 else 0),0)
 else if op=15 then((if a=b then 1 else 0),0)
 else(0,1)
structure RS where
 vars:List Int
 arrs:List (List Int)
 read:Nat
 out:List UInt8
 ticks:Nat
inductive Rz (α:Type) where
 |val (a:α) (s:RS)
 |fin (e:Int) (s:RS)
def Rz.st {α:Type}:Rz α→RS| .val _ s=>s| .fin _ s=>s
structure Cf where
 words:Nat
 res:dC→Bool×Int
 body:List Sm
structure Cx where
 funs:List Cf
 inp:dC
 fuel:Nat
def bindR {α β:Type} (x:Option (Rz α)) (f:α→RS→Option (Rz β)):Option (Rz β):=match x with
 |none=>none
 |some (.val a s)=>f a s
 |some (.fin e s)=>some (.fin e s)
def nE (cx:Cx) (s:RS):Rz Unit:=if cx.fuel≤s.ticks then .fin 5 s else .val () {s with ticks:=s.ticks+1}
def zI (cx:Cx) (s:RS):Rz Int:=match cx.inp[s.read]? with
 |some c=> .val c.toNat {s with read:=s.read+1}
 |none=> .val 256 s
def Ik (v:Int) (s:RS):Rz Unit:=if 65536≤s.out.length then .fin 4 s else .val () {s with out:=s.out++[UInt8.ofNat (IntKind.wrap .u8 v).toNat]}
def X1 (i at':Int) (s:RS):Option (Rz Nat):=match s.arrs[i.toNat]? with
 |none=>none
 |some l=>if at'.toNat<l.length then some (.val at'.toNat s)else some (.fin 3 s)
def Ru (i:Int) (j:Nat) (v:Int) (s:RS):RS:={s with arrs:=s.arrs.modify i.toNat fun l=>l.set j v}
def Sj (p:Bool×Int) (v:Int) (ow:List Int) (s:RS):Option (List Int×RS):=
 if 0≤p.2 then(if p.1 then(if p.2.toNat<ow.length then some (ow.set p.2.toNat v,s)else none)else if p.2.toNat<s.vars.length then some (ow,{s with vars:=s.vars.set p.2.toNat v})else none)else none
def Pq (p:Bool×Int) (ow:List Int) (s:RS):Option Int:=if 0≤p.2 then(if p.1 then ow[p.2.toNat]? else s.vars[p.2.toNat]?)else none
mutual
def kT (cx:Cx):Nat→(dC→Bool×Int)→List Int→Ex→RS→Option (Rz Int)
 |0,_,_,_,_=>none
 |n+1,rs,ow, .mk k o m s l,st=>
  if k=1 then some (.val m st)
  else if k=2 then(Pq (rs s) ow st).map fun v=> .val v st
  else if k=3 then match l[0]? with
   |none=>none
   |some a=>bindR (kT cx n rs ow a st) fun at' st=>if 0≤(rs s).2 then bindR (X1 (rs s).2 at' st) fun j st=>((st.arrs[(rs s).2.toNat]?).bind fun l=>l[j]?).map fun v=> .val v st else none
  else if k=4 then Ug cx n rs ow (rs s).2 l st
  else if k=5 then some (zI cx st)
  else match l[0]? with
   |none=>none
   |some a=>
    if k=7 then bindR (kT cx n rs ow a st) fun x st=>some (.val (if x=0 then 1 else 0) st)
    else match l[1]? with
    |none=>none
    |some b=>
     if k=6 then bindR (kT cx n rs ow a st) fun x st=>bindR (kT cx n rs ow b st) fun y st=>if(eR o x y).2=0 then some (.val (eR o x y).1 st)else some (.fin 2 st)
     else bindR (kT cx n rs ow a st) fun x st=>if decide (x=0)=decide (k=8)then some (.val x st)else kT cx n rs ow b st
def Fa (cx:Cx):Nat→(dC→Bool×Int)→List Int→List Ex→RS→Option (Rz (List Int))
 |0,_,_,_,_=>none
 |_+1,_,_,[],st=>some (.val [] st)
 |n+1,rs,ow,e::l,st=>bindR (kT cx n rs ow e st) fun v st=>bindR (Fa cx n rs ow l st) fun vs st=>some (.val (v::vs) st)
def Ug (cx:Cx):Nat→(dC→Bool×Int)→List Int→Int→List Ex→RS→Option (Rz Int)
 |0,_,_,_,_,_=>none
 |n+1,rs,ow,i,l,st=>if i<0 then none else match cx.funs[i.toNat]? with
  |none=>none
  |some f=>if f.words<l.length then none else bindR (Fa cx n rs ow l st) fun vs st=>bindR (some (nE cx st)) fun _ st=>
   bindR (nW cx n f.res (vs++List.replicate (f.words-l.length) 0) f.body st) fun r st=>some (.val (r.1.getD 0) st)
def pN (cx:Cx):Nat→(dC→Bool×Int)→List Int→Sm→RS→Option (Rz (Option Int×List Int))
 |0,_,_,_,_=>none
 |n+1,rs,ow, .mk k s l t u,st=>
  if k=1 then match l[0]? with
   |none=>none
   |some a=>bindR (kT cx n rs ow a st) fun v st=>(Sj (rs s) v ow st).map fun p=> .val (none,p.1) p.2
  else if k=2 then match l[0]?,l[1]? with
   |some a,some b=>bindR (kT cx n rs ow a st) fun x st=>bindR (kT cx n rs ow b st) fun v st=>if 0≤(rs s).2 then bindR (X1 (rs s).2 x st) fun j st=>some (.val (none,ow) (Ru (rs s).2 j v st))else none
   |_,_=>none
  else if k=3 then match l[0]? with
   |none=>none
   |some a=>bindR (kT cx n rs ow a st) fun v st=>bindR (some (Ik v st)) fun _ st=>some (.val (none,ow) st)
  else if k=4 then match l[0]? with
   |none=>none
   |some a=>bindR (kT cx n rs ow a st) fun v st=>if v=0 then nW cx n rs ow u st else nW cx n rs ow t st
  else if k=5 then match l[0]? with
   |none=>none
   |some a=>zL cx n rs ow a t st
  else if k=6 then bindR (Ug cx n rs ow (rs s).2 l st) fun _ st=>some (.val (none,ow) st)
  else if k=7 then match l[0]? with
   |none=>some (.val (some 0,ow) st)
   |some a=>bindR (kT cx n rs ow a st) fun v st=>some (.val (some v,ow) st)
  else some (.val (none,ow) st)
def nW (cx:Cx):Nat→(dC→Bool×Int)→List Int→List Sm→RS→Option (Rz (Option Int×List Int))
 |0,_,_,_,_=>none
 |_+1,_,ow,[],st=>some (.val (none,ow) st)
 |n+1,rs,ow,s::l,st=>bindR (pN cx n rs ow s st) fun r st=>match r.1 with
  |some v=>some (.val (some v,r.2) st)
  |none=>nW cx n rs r.2 l st
def zL (cx:Cx):Nat→(dC→Bool×Int)→List Int→Ex→List Sm→RS→Option (Rz (Option Int×List Int))
 |0,_,_,_,_,_=>none
 |n+1,rs,ow,c,t,st=>bindR (some (nE cx st)) fun _ st=>bindR (kT cx n rs ow c st) fun x st=>if x=0 then some (.val (none,ow) st)else
  bindR (nW cx n rs ow t st) fun r st=>match r.1 with
  |some v=>some (.val (some v,r.2) st)
  |none=>zL cx n rs r.2 c t st
end
def jV {α:Type} (x y:Option α):Prop:= ∀o,x=some o→y=some o
theorem jV.refl {a:Type} (x:Option a):jV x x:=fun _ h=>h
theorem jV.none {a:Type} (y:Option a):jV none y:=fun _ h=>by cases h
theorem jV.bindR {c d:Type} {x y:Option (Rz c)} {f g:c→RS→Option (Rz d)} (h:jV x y) (hf: ∀a s,jV (f a s) (g a s)):jV (bindR x f) (bindR y g):=fun o b=>by
 cases x with
 |none=>cases b
 |some r=>
  have:=h r rfl;subst this
  cases r with
  |val a s=>exact hf a s o b
  |fin e s=>exact b
theorem jV.ite {e:Type} {c:Prop} [Decidable c] {x y a b:Option e} (h:jV x a) (d:jV y b):jV (if c then x else y) (if c then a else b):=by
 split
 ·exact h
 exact d
structure Deep (cx:Cx) (n:Nat):Prop where
 E: ∀rs ow e st,jV (kT cx n rs ow e st) (kT cx (n+1) rs ow e st)
 A: ∀rs ow l st,jV (Fa cx n rs ow l st) (Fa cx (n+1) rs ow l st)
 C: ∀rs ow i l st,jV (Ug cx n rs ow i l st) (Ug cx (n+1) rs ow i l st)
 S: ∀rs ow e st,jV (pN cx n rs ow e st) (pN cx (n+1) rs ow e st)
 L: ∀rs ow l st,jV (nW cx n rs ow l st) (nW cx (n+1) rs ow l st)
 W: ∀rs ow c t st,jV (zL cx n rs ow c t st) (zL cx (n+1) rs ow c t st)
theorem O3 (cx:Cx) (n:Nat):Deep cx n:=by
 induction n with
 |zero=>
  constructor
  all_goals
   intros
   intro o h;simp [kT,Fa,Ug,pN,nW,zL]at h
 |succ n ih=>
  obtain⟨d,z,A,C,g,B⟩:=ih;constructor
  ·rintro y p ⟨k,o,m,s,l⟩ st
   simp only[kT];refine jV.ite (jV.refl _) (jV.ite (jV.refl _) (jV.ite ?_ (jV.ite (A _ _ _ _ _) (jV.ite (jV.refl _) ?_))))
   ·cases l[0]? with
    |none=>exact jV.refl _
    |some a=>exact jV.bindR (d _ _ _ _) fun _ _=>jV.refl _
   cases l[0]? with
   |none=>exact jV.refl _
   |some a=>
    refine jV.ite (jV.bindR (d _ _ _ _) fun _ _=>jV.refl _) ?_
    cases l[1]? with
    |none=>exact jV.refl _
    |some b=>
     refine jV.ite (jV.bindR (d _ _ _ _) fun _ _=>jV.bindR (d _ _ _ _) fun _ _=>jV.refl _) ?_;exact jV.bindR (d _ _ _ _) fun _ _=>jV.ite (jV.refl _) (d _ _ _ _)
  ·intro y p l st
   cases l with
   |nil=>simp only[Fa];exact jV.refl _
   |cons e l=>
    simp only[Fa];exact jV.bindR (d _ _ _ _) fun _ _=>jV.bindR (z _ _ _ _) fun _ _=>jV.refl _
  ·intro y p i l st
   simp only[Ug];refine jV.ite (jV.refl _) ?_
   cases cx.funs[i.toNat]? with
   |none=>exact jV.refl _
   |some f=>exact jV.ite (jV.refl _) (jV.bindR (z _ _ _ _) fun _ _=>jV.bindR (jV.refl _) fun _ _=>jV.bindR (g _ _ _ _) fun _ _=>jV.refl _)
  ·rintro y p ⟨k,s,l,t,u⟩ st
   simp only[pN];refine jV.ite ?_ (jV.ite ?_ (jV.ite ?_ (jV.ite ?_ (jV.ite ?_ (jV.ite ?_ (jV.ite ?_ (jV.refl _)))))))
   ·cases l[0]? with
    |none=>exact jV.refl _
    |some a=>exact jV.bindR (d _ _ _ _) fun _ _=>jV.refl _
   ·cases l[0]? with
    |none=>exact jV.refl _
    |some a=>
     cases l[1]? with
     |none=>exact jV.refl _
     |some b=>exact jV.bindR (d _ _ _ _) fun _ _=>jV.bindR (d _ _ _ _) fun _ _=>jV.refl _
   ·cases l[0]? with
    |none=>exact jV.refl _
    |some a=>exact jV.bindR (d _ _ _ _) fun _ _=>jV.refl _
   ·cases l[0]? with
    |none=>exact jV.refl _
    |some a=>exact jV.bindR (d _ _ _ _) fun _ _=>jV.ite (g _ _ _ _) (g _ _ _ _)
   ·cases l[0]? with
    |none=>exact jV.refl _
    |some a=>exact B _ _ _ _ _
   ·exact jV.bindR (A _ _ _ _ _) fun _ _=>jV.refl _
   cases l[0]? with
   |none=>exact jV.refl _
   |some a=>exact jV.bindR (d _ _ _ _) fun _ _=>jV.refl _
  ·intro y p l st
   cases l with
   |nil=>simp only[nW];exact jV.refl _
   |cons s l=>
    simp only[nW];refine jV.bindR (C _ _ _ _) fun r st=>?_
    cases r.1 with
    |some v=>exact jV.refl _
    |none=>exact g _ _ _ _
  intro y p c t st;simp only[zL];refine jV.bindR (jV.refl _) fun _ st=>jV.bindR (d _ _ _ _) fun x st=>jV.ite (jV.refl _) (jV.bindR (g _ _ _ _) fun r st=>?_)
  cases r.1 with
  |some v=>exact jV.refl _
  |none=>exact B _ _ _ _ _
theorem Jq {b:Type} {f:Nat→Option b} (h: ∀n,jV (f n) (f (n+1))) {n m:Nat} (c:n≤m):jV (f n) (f m):=by
 induction m with
 |zero=>obtain rfl:n=0:=by omega
        exact jV.refl _
 |succ m ih=>
  rcases pR m n with h1|h1
  ·obtain rfl:n=m+1:=by omega
   exact jV.refl _
  exact fun o a=>h m o (ih h1 o a)
theorem Yz {cx:Cx} {n m:Nat} (a:n≤m) {rs ow e st o} (h:kT cx n rs ow e st=some o):kT cx m rs ow e st=some o:=Jq (f:=fun n=>kT cx n rs ow e st) (fun n=>(O3 cx n).E _ _ _ _) a o h
theorem KZ {cx:Cx} {n m:Nat} (a:n≤m) {rs ow e st o} (h:pN cx n rs ow e st=some o):pN cx m rs ow e st=some o:=Jq (f:=fun n=>pN cx n rs ow e st) (fun n=>(O3 cx n).S _ _ _ _) a o h
theorem LA {cx:Cx} {n m:Nat} (a:n≤m) {rs ow e st o} (h:nW cx n rs ow e st=some o):nW cx m rs ow e st=some o:=Jq (f:=fun n=>nW cx n rs ow e st) (fun n=>(O3 cx n).L _ _ _ _) a o h
def A9 {α:Type} (f:Nat→Option (Rz α)) (P:α→RS→Prop):Prop:= ∃n r,f n=some r∧ ∀a s,r= .val a s→P a s
def Gs {α:Type} (f:Nat→Option α):Prop:= ∀n,jV (f n) (f (n+1))
theorem Gs.const {a:Type} (x:Option a):Gs fun _=>x:=fun _=>jV.refl _
theorem A9.const {b:Type} {x:Rz b} {P:b→RS→Prop} (h: ∀a s,x= .val a s→P a s):A9 (fun _=>some x) P:=⟨0,x,rfl,h⟩
theorem A9.mono {b:Type} {f:Nat→Option (Rz b)} {P Q:b→RS→Prop} (h:A9 f P) (g: ∀a s,P a s→Q a s):A9 f Q:=by
 obtain⟨n,r,c,d⟩:=h;exact⟨n,r,c,fun a s e=>g a s (d a s e)⟩
theorem A9.bind {b d:Type} {f:Nat→Option (Rz b)} {g:b→RS→Nat→Option (Rz d)} {P:b→RS→Prop} {Q:d→RS→Prop} (h:A9 f P) (hf:Gs f) (v: ∀a s,Gs (g a s)) (o: ∀a s,P a s→A9 (g a s) Q):A9 (fun n=>bindR (f n) fun a s=>g a s n) Q:=by
 obtain⟨n,r,c,t⟩:=h
 cases r with
 |fin e s=>exact⟨n, .fin e s,by simp only[c,bindR],fun a s e=>by cases e⟩
 |val a s=>
  obtain⟨m,r,p,u⟩:=o a s (t a s rfl);refine⟨max n m,r, ?_,u⟩;have k:=Jq hf (Nat.le_max_left n m) _ c;have l:=Jq (v a s) (Nat.le_max_right n m) _ p;simp only[k,bindR];exact l
theorem A9.ite {b:Type} {c:Prop} [Decidable c] {f g:Nat→Option (Rz b)} {P:b→RS→Prop} (d:c→A9 f P) (k: ¬c→A9 g P):A9 (fun n=>if c then f n else g n) P:=by
 by_cases h:c
 ·obtain⟨n,r,e,a⟩:=d h;exact⟨n,r,by simp only[bH h,e],a⟩
 obtain⟨n,r,e,a⟩:=k h;exact⟨n,r,by simp only[aL h,e],a⟩
theorem A9.succ {a:Type} {f g:Nat→Option (Rz a)} {P:a→RS→Prop} (h:A9 f P) (d: ∀n,g (n+1)=f n):A9 g P:=by
 obtain⟨n,r,b,c⟩:=h;exact⟨n+1,r,by rw[d,b],c⟩
theorem Gs.bind {b d:Type} {f:Nat→Option (Rz b)} {g:b→RS→Nat→Option (Rz d)} (hf:Gs f) (c: ∀a s,Gs (g a s)):Gs fun n=>bindR (f n) fun a s=>g a s n:=fun n=>jV.bindR (hf n) fun a s=>c a s n
theorem Gs.ite {b:Type} {c:Prop} [Decidable c] {f g:Nat→Option b} (hf:Gs f) (a:Gs g):Gs fun n=>if c then f n else g n:=fun n=>jV.ite (hf n) (a n)
structure Nm (cx:Cx) (nv na i:Nat) where
 w:Nat
 res:dC→Bool×Int
structure Fm (nv na t:Nat) (s:RS):Prop where
 v:s.vars.length=nv
 a:s.arrs.length=na
 t:t≤s.ticks
theorem Fm.self {nv na t:Nat} {s:RS} (h:Fm nv na t s):Fm nv na s.ticks s:=⟨h.v,h.a,bI _⟩
theorem Fm.trans {nv na t b:Nat} {s:RS} (c:t≤b) (h:Fm nv na b s):Fm nv na t s:=⟨h.v,h.a,pS c h.t⟩
def SB (cx:Cx) (nv na j:Nat):Prop:= ∀f,cx.funs[j]?=some f→ ∀(ow:List Int) (st:RS),ow.length=f.words→st.vars.length=nv→st.arrs.length=na→
 A9 (fun n=>nW cx n f.res ow f.body st) (fun _ s=>Fm nv na st.ticks s)
section
variable {cx : Cx} {nv na i : Nat} {f : Cf} (hf : cx.funs[i]? = some f) (hb : ∀ j, j < i → SB cx nv na j)
include hf hb
end
section
variable {cx : Cx} {nv na i : Nat} {f : Cf} (hf : cx.funs[i]? = some f) (hb : ∀ j, j < i → SB cx nv na j)
include hf hb
end
def Cx.main (cx:Cx):Option Cf:=cx.funs[cx.funs.length- 1]?
def RS.init (nv:Nat) (sizes:List Nat):RS:=⟨List.replicate nv 0,sizes.map fun n=>List.replicate n 0,0,[],0⟩
def Zc {α:Type}:Rz α→Int×dC×Nat
 | .val _ s=>(1,s.out,s.ticks)
 | .fin e s=>(e,s.out,s.ticks)
def Z2 (cx:Cx) (n nv:Nat) (sizes:List Nat):Option (Int×dC×Nat):=cx.main.bind fun f=>(nW cx n f.res (List.replicate f.words 0) f.body (RS.init nv sizes)).map Zc
inductive PV (rs:dC→Bool×Int) (st:RS):Ex→Int→Prop where
 |num {o m:Int} {s:dC} {l:List Ex}:PV rs st (.mk 1 o m s l) m
 |var {o m:Int} {s:dC} {l:List Ex} {v:Int} (h:Pq (rs s) [] st=some v):PV rs st (.mk 2 o m s l) v
 |idx {o m:Int} {s:dC} {a:Ex} {x v:Int} {l:List Int} (ha:PV rs st a x) (h0:0≤(rs s).2) (h1:st.arrs[(rs s).2.toNat]?=some l) (h3:l[x.toNat]?=some v):PV rs st (.mk 3 o m s [a]) v
 |op {o m:Int} {s:dC} {a b:Ex} {x y v:Int} (ha:PV rs st a x) (hb:PV rs st b y) (h:eR o x y=(v,0)):PV rs st (.mk 6 o m s [a,b]) v
 |neg {o m:Int} {s:dC} {a:Ex} {x v:Int} (ha:PV rs st a x) (h:(if x=0 then 1 else 0)=v):PV rs st (.mk 7 o m s [a]) v
theorem zM {cx:Cx} {n m:Nat} (a:n≤m) {rs ow e st r} (h:kT cx n rs ow e st=some r):kT cx m rs ow e st=some r:=by
 induction m with
 |zero=>obtain rfl:n=0:=by omega
        exact h
 |succ m ih=>
  rcases pR m n with c|c
  ·obtain rfl:n=m+1:=by omega
   exact h
  exact(O3 cx m).E _ _ _ _ _ (ih c)
theorem N7 {cx:Cx} {n m:Nat} (a:n≤m) {rs ow e st r} (h:nW cx n rs ow e st=some r):nW cx m rs ow e st=some r:=by
 induction m with
 |zero=>obtain rfl:n=0:=by omega
        exact h
 |succ m ih=>
  rcases pR m n with c|c
  ·obtain rfl:n=m+1:=by omega
   exact h
  exact(O3 cx m).L _ _ _ _ _ (ih c)
theorem PV.ev {rs:dC→Bool×Int} {st:RS} {e:Ex} {v:Int} (cx:Cx) (h:PV rs st e v): ∃n,kT cx n rs [] e st=some (.val v st):=by
 induction h with
 |num=>exact⟨1,by simp [kT]⟩
 |var h=>exact⟨1,by simp [kT,h]⟩
 | @idx o m s a x v l ha h0 d h3 ih=>
   obtain⟨n,c⟩:=ih;have f:x.toNat<l.length:=(bF.1 h3).1;refine⟨n+1, ?_⟩;simp [kT,c,bindR,h0,X1,d,f];exact(bF.1 h3).2
 | @op o m s a b x y v ha hb h iha ihb=>
   obtain⟨n,c⟩:=iha;obtain⟨k,g⟩:=ihb;refine⟨n+k+1, ?_⟩;have d:=zM (m:=n+k) (by omega) c;have f:=zM (m:=n+k) (by omega) g;simp [kT,d,f,bindR,h]
 | @neg o m s a x v ha h ih=>
   obtain⟨n,c⟩:=ih;refine⟨n+1, ?_⟩;simp [kT,c,bindR,h]
def Wp (cx:Cx) (rs:dC→Bool×Int) (l:List Sm) (st:RS) (P:RS→Prop):Prop:= ∃n st',nW cx n rs [] l st=some (.val (none,[]) st')∧P st'
section
variable {cx : Cx} {rs : dC → Bool × Int} {st : RS} {P : RS → Prop} {l : List Sm}
theorem Wp.nil (h:P st):Wp cx rs [] st P:=⟨1,st,by simp [nW],h⟩
theorem Wp.imp {Q:RS→Prop} (h:Wp cx rs l st Q) (c: ∀s,Q s→P s):Wp cx rs l st P:=by
 obtain⟨n,s,a,b⟩:=h;exact⟨n,s,a,c s b⟩
theorem Wp.one {s:Sm} {a:RS} (d: ∃n,pN cx n rs [] s st=some (.val (none,[]) a)) (h:Wp cx rs l a P):Wp cx rs (s::l) st P:=by
 obtain⟨n,b⟩:=d;obtain⟨k,i,g,f⟩:=h
 have j: ∀m,n≤m→pN cx m rs [] s st=some (.val (none,[]) a):=by
  intro m o
  induction m with
  |zero=>obtain rfl:n=0:=by omega
         exact b
  |succ m ih=>
   rcases pR m n with c|c
   ·obtain rfl:n=m+1:=by omega
    exact b
   exact(O3 cx m).S _ _ _ _ _ (ih c)
 refine⟨n+k+1,i, ?_,f⟩;have e:=N7 (m:=n+k) (by omega) g;simp [nW,j (n+k) (by omega),bindR,e]
theorem Wp.set {s:dC} {e:Ex} {t u:List Sm} {v i:Int} (f:PV rs st e v) (b:rs s=(false,i)) (a:0≤i) (c:i.toNat<st.vars.length) (h:Wp cx rs l {st with vars:=st.vars.set i.toNat v} P):Wp cx rs (.mk 1 s [e] t u::l) st P:=by
 obtain⟨n,d⟩:=f.ev cx;exact .one ⟨n+1,by simp [pN,d,bindR,Sj,b,a,c]⟩ h
theorem Wp.get {s:dC} {o m:Int} {s':dC} {l':List Ex} {t u:List Sm} {v i:Int} {a:RS} (c:zI cx st= .val v a) (d:rs s=(false,i)) (b:0≤i) (e:i.toNat<a.vars.length) (h:Wp cx rs l {a with vars:=a.vars.set i.toNat v} P):Wp cx rs (.mk 1 s [.mk 5 o m s' l'] t u::l) st P:=
 .one ⟨2,by simp [pN,kT,c,bindR,Sj,d,b,e]⟩ h
theorem Wp.store {s:dC} {a e:Ex} {t u:List Sm} {x v:Int} {b:Bool} {i:Int} {arr:List Int} (A:PV rs st a x) (z:PV rs st e v) (j:rs s=(b,i)) (c:0≤i) (g:st.arrs[i.toNat]?=some arr) (p:x.toNat<arr.length) (h:Wp cx rs l (Ru i x.toNat v st) P):Wp cx rs (.mk 2 s [a,e] t u::l) st P:=by
 obtain⟨n,y⟩:=A.ev cx;obtain⟨k,o⟩:=z.ev cx;have d:=zM (m:=n+k) (by omega) y;have f:=zM (m:=n+k) (by omega) o;exact .one ⟨n+k+1,by simp [pN,d,f,bindR,j,c,X1,g,p]⟩ h
theorem Wp.put {s:dC} {e:Ex} {t u:List Sm} {v:Int} (b:PV rs st e v) (c:st.out.length<65536) (h:Wp cx rs l {st with out:=st.out++[UInt8.ofNat (IntKind.wrap .u8 v).toNat]} P):Wp cx rs (.mk 3 s [e] t u::l) st P:=by
 obtain⟨n,a⟩:=b.ev cx;have : ¬65536≤st.out.length:=by omega
 exact .one ⟨n+1,by simp [pN,a,bindR,Ik,this]⟩ h
theorem Wp.sub {s:Sm} {Q:RS→Prop} (c: ∃n a,pN cx n rs [] s st=some (.val (none,[]) a)∧Q a) (h: ∀b,Q b→Wp cx rs l b P):Wp cx rs (s::l) st P:=by
 obtain⟨n,a,d,e⟩:=c;exact .one ⟨n,d⟩ (h a e)
theorem Wp.cond (Q:RS→Prop) {s:dC} {e:Ex} {t:List Sm} {v:Int} (j:PV rs st e v) (d:v≠0→Wp cx rs t st Q) (f:v=0→Q st) (h: ∀b,Q b→Wp cx rs l b P):Wp cx rs (.mk 4 s [e] t []::l) st P:=by
 obtain⟨n,a⟩:=j.ev cx;refine .sub ?_ h;by_cases c:v=0
 ·exact⟨n+2,st,by simp [pN,zM (m:=n+1) (by omega) a,bindR,c,nW],f c⟩
 obtain⟨k,o,i,g⟩:=d c;exact⟨n+k+1,o,by simp [pN,zM (m:=n+k) (by omega) a,bindR,c,N7 (m:=n+k) (by omega) i],g⟩
def RS.tick (s:RS):RS:={s with ticks:=s.ticks+1}
theorem Wp.loop (I:Nat→RS→Prop) (N:Nat) {s:dC} {e:Ex} {t u:List Sm} (i:st.ticks<cx.fuel) (b:I 0 st.tick)
  (step: ∀k s,k<N→I k s→ ∃v,PV rs s e v∧v≠0∧Wp cx rs t s (fun f=>f.ticks<cx.fuel∧I (k+1) f.tick))
  (stop: ∀s,I N s→PV rs s e 0∧Wp cx rs l s P):Wp cx rs (.mk 5 s [e] t u::l) st P:=by
 have J: ∀j k,k+j=N→ ∀st:RS,st.ticks<cx.fuel→I k st.tick→ ∃n a,zL cx n rs [] e t st=some (.val (none,[]) a)∧I N a:=by
  intro j
  induction j with
  |zero=>
   intro k D st i b;obtain rfl:k=N:=by omega
   obtain⟨n,d⟩:=(stop _ b).1.ev cx;have d:kT cx n rs [] e {st with ticks:=st.ticks+1}=some (.val 0 st.tick):=d;exact⟨n+1,st.tick,by simp [zL,nE,bindR,show ¬cx.fuel≤st.ticks by omega,d],b⟩
  |succ j ih=>
   intro k D st i b;obtain⟨v,G,H,m,o,E,C,A⟩:=step k _ (by omega) b;obtain⟨n,d⟩:=G.ev cx;obtain⟨q,a,p,B⟩:=ih (k+1) (by omega) o C A
   have K:zL cx (n+m+q) rs [] e t o=some (.val (none,[]) a):=by
    have : ∀r,q≤r→zL cx r rs [] e t o=some (.val (none,[]) a):=by
     intro r L
     induction r with
     |zero=>obtain rfl:q=0:=by omega
            exact p
     |succ r ihr=>
      rcases pR r q with c|c
      ·obtain rfl:q=r+1:=by omega
       exact p
      exact(O3 cx r).W _ _ _ _ _ _ (ihr c)
    exact this _ (by omega)
   refine⟨n+m+q+1,a, ?_,B⟩;have g:=zM (m:=n+m+q) (by omega) d;have x:=N7 (m:=n+m+q) (by omega) E;have g:kT cx (n+m+q) rs [] e {st with ticks:=st.ticks+1}=some (.val v st.tick):=g;simp [zL,nE,bindR,show ¬cx.fuel≤st.ticks by omega,g,H,x,K]
 obtain⟨n,a,y,z⟩:=J N 0 (by omega) st i b;exact .sub ⟨n+1,a,by simp [pN,y],z⟩ fun f F=>(stop f F).2
end
end Go.Al
namespace Go.Proofs.YtaecpjgmcffliaaGreatDoor
open Go.Al Go.Proofs.Tryz
theorem I8 (T:List gA) (n:Nat):wG T n=(kG T 1 n).bind fun t m=>
  (if eD T m=[40]then(vK T (m+1)).bind fun l m=> .ok (.mk 6 t.text l [] []) m
   else if eD T m=[91]then(kP T 1 (m+1)).bind fun a m=>(fE T [93] m).bind fun _ m=>(fE T [61] m).bind fun _ m=>(kP T 1 m).bind fun e m=> .ok (.mk 2 t.text [a,e] [] []) m
   else(fE T [61] m).bind fun _ m=>(kP T 1 m).bind fun e m=> .ok (.mk 1 t.text [e] [] []) m:PR Sm).bind fun s m=>(fE T [59] m).bind fun _ m=> .ok s m:=by
 unfold wG;refine PR.bind_congr rfl fun t m _=>?_;congr 1;by_cases b:eD T m=[61]
 ·have e:fE T [61] m= .ok () (m+1):=bH b
  rw[b,e];rfl
 have e:fE T [61] m= .bad m:=aL b;rw[aL b,e,PR.bind_bad];by_cases c:eD T m=[91]
 ·rw[c];simp
 simp only[aL c]
theorem Dn (d:Nat) {T:List gA} (e:Sz T) (n:Nat) (w:Bool) (u:n≤T.length):pU 193 [] d T n w Gk (kW w n (pL T n)):=by
 unfold pU;generalize c:kW w n (pL T n)=V;unfold pL at c;have R:=e.len;have b:=mM d T n w;refine bX 12 [.tmp 2] func193 ?_;refine aA fun K a=>?_;simp only[Gk,RR,seval];refine a _ _ (aA fun K a=>?_);simp only[Gk,RR,seval];refine dW (fM d e n w u [40] (by decide)) b trivial fun I A D F j O p x M=>?_;have c:=dH c j;have b:=x;simp only[RR,seval];refine a _ _ (aA fun K a=>?_);simp only[Gk,RR,seval];refine dW (tH d e A D p) b trivial fun J B E G k P t y N=>?_;have c:=dH c k;have b:=y;simp only[oI,RR,seval];refine aM fun g v=>?_;have f:=cY v b;have C:=f.symm;simp only[RR,seval];refine a _ _ (aA fun K a=>?_);simp only[Gk,RR,seval];refine dW (fM d e B E t [41] (by decide)) (by(simp only[b,C,aT,seval];done)) trivial fun L U W H l Q S z o=>?_;have c:=dH c l;have i:=o g _ f (bE _ _ _);have b:=z;simp only[RR,seval];refine a _ _ (aA fun K a=>?_);simp only[i,Gk,RR,seval];refine eG ?_;simp only[RR,seval];apply a;refine aN ?_;simp only[aW,aJ,bN,Gk,RR,seval];refine iN b c ?_ (by omega) (by omega);simp only[cN,dO,Ex.row_eq];exact hP.refl _
def Iz (r0:Nat) (T:List gA) (n:Nat) (w:Bool):Prop:=pU 152 [] r0 T n w sF (kW w n (Hq T n))
def Tq (r0:Nat) (T:List gA) (n:Nat) (w:Bool):Prop:=pU 195 [] r0 T n w XQ (kW w n (Ff T n))
def Ns (T:List gA) (m:Nat) (w:Bool):Nat:=2 *(T.length-m)+(if w=true then 0 else 1)
theorem Ti {e:Type} {T:List gA} {m b:Nat} {w c:Bool} {a:e} {X:PR e} (g:w=false) (j:m≤T.length) (k:b≤T.length) (i:m≤b) (d:kW c b (PR.ok a b)=kW w m X) (f: ∀a b,X= .ok a b→m<b):Ns T b c<Ns T m w:=by
 subst g;unfold Ns
 cases c with
 |true=>simp;omega
 |false=>
  rw[nF,nF]at d;have:=f a b d.symm;simp;omega
theorem J9 (l:Nat) {T:List gA} (D:Sz T) (n:Nat) (w:Bool) (hn:n≤T.length) (ih: ∀m w,n≤m→m≤T.length→Iz l T m w):Tq l T n w:=by
 unfold Tq pU;generalize c:kW w n (Ff T n)=S;rw[LL]at c;have b6:=D.len;have b:=mM l T n w;refine bX 22 [.tmp 2] func195 ?_;refine aA fun K g=>?_;simp only[RR,seval];refine g _ _ (aA fun K g=>?_);simp only[RR,seval];refine dW (fM l D n w hn [123] (by decide)) b trivial fun a5 R U M1 a4 a9 b0 b2 b5=>?_;have c:=dH c a4;have b:=b2;simp only[RR,seval];refine g _ _ (aA fun K g=>?_);simp only[RR,seval];refine g _ _ (aI (bM fun F2 M2 E Y=>?_));have o:=E 0;have C:=E 2;have p:=E 3;have y:=Y l;simp only[b,RR,seval]at o C p y;have b:=y;refine aP (iV [0,2] (Ns T R U) (fun k X M=>(∃(m:Nat) (f:Bool) (i:List Sm),k=Ns T m f∧n≤m∧m≤T.length∧i.length≤m+1∧(f=false→i.length≤m)∧kW f m (sO T i m)=S∧eB 5 (X 3) (i.map Sm.row) M∧M l=some (.rows 3 [[.isl 4 (T.map gA.row), .int .i64 (m:Nat), .bool f]]))) ⟨R,U,[],rfl,a9,b0,cJ _,fun _=>cJ _,c, .inl ⟨p,rfl⟩,b⟩ ?_);rintro k J M3 ⟨m,f,i,rfl,b3,F,a0,a1,c,j,b⟩ B K0 Z;have o:=(B 0 rfl).trans o;have C:=(B 2 rfl).trans C;have W:=aX.refl [0,2] J;clear B;obtain⟨v3,p⟩: ∃v,J 3=v:=⟨_,rfl⟩;rw[p]at j;rw[Oj]at c;have a3:=jZ l D m f F [125] (by decide)
 all_goals
  refine aI (aA fun K g=>?_);simp only[o,b,RR,seval]
  all_goals ((refine bZ (fun h=>?_) (fun h=>?_))<;>simp only[h,o,RR,seval])
  all_goals try ((refine gO a3 b trivial fun M9 Q L=>?_;have j:=eB.kp j b (by decide) L;have b:=Q;clear Q L);simp only[RR,seval])
  all_goals
   refine g _ _ (aU ?_ ?_)<;>intro u
   ·try (cases u;done)
    all_goals
     have G:=u;clear u;have x:f=false:=by simpa using h
     have t:Pz T f m [125]=false:=by simpa using G
     have c:=rM t c;rw[aL (dQ.1 t)]at b;have a0:=a1 x;refine aK ?_;simp only[RR];refine aP (aG ?_);simp only[o,p,RR,seval];refine dW (ih m f b3 F) b trivial fun V H I M4 z a8 N b1 a7=>?_;have c:=dH c z;have j:=eB.kp j b (by decide) a7;have b:=b1;simp only[sF,RR,seval];refine eG ?_;simp only[RR,seval];refine jF j (by simp only[aE,aQ,aV];omega) (fun _=>trivial) fun v4 M5 b4 a6=>?_;simp only[RR,seval];have y:=a6 l _ b (by exact(j).nb' b (by decide));have b:=y;have b7:=Ti x F N a8 z fun a m' h=>(xL h).1
     have a2:I=false→m<H:=fun e=>by
      subst e;subst x;rw[nF,nF]at z;exact(xL z.symm).1
     refine Z (Ns T H I) _ _ (by omega) ⟨H,I,i++[V],rfl,by omega,N,by simp only[aH,aQ,aV];omega,fun e=>by have:=a2 e;simp only[aH,aQ,aV];omega,c,by rw[Xe];exact b4,by exact b⟩ (by repeat (first|exact W|refine aX.upd rfl ?_))
   try (cases u;done)
   all_goals
    have G:=u
    first
     |(have x:f=true:=by simpa using h
       subst x;obtain⟨d,A⟩: ∃d:Nat,d=m:=⟨_,rfl⟩;have c:kW true d (PR.ok i d)=S:=by rw[A];exact c
       rw[←A]at b;have O:n≤d:=by omega
       have P:d≤T.length:=by omega)
     |(have t:Pz T f m [125]=true:=by simpa using G
       have c:=rL t c;have:=jP t (by decide);rw[bH t]at b;obtain⟨d,A⟩: ∃d:Nat,d=m+1:=⟨_,rfl⟩;rw[←A]at c b;have O:n≤d:=by omega
       have P:d≤T.length:=by omega)
    refine cF ?_;simp only[RR,seval];refine aA fun K g=>?_;simp only[p,RR,seval];apply g;refine aN ?_;simp only[aW,aJ,bN,RR,seval];refine V1 (a:=i) j (by decide) b c ?_ O P;exact hP.refl _
theorem Aw {a b:Type} (c:Prop) [Decidable c] (A B:PR a) (K:a→Nat→PR b):(if c then A else B).bind K=if c then A.bind K else B.bind K:=by split<;>rfl
theorem J3 (o:Nat) {T:List gA} (z:Sz T) (n:Nat) (w:Bool) (hn:n≤T.length) (ih: ∀m w,n<m→m≤T.length→Tq o T m w):Iz o T n w:=by
 unfold Iz pU;generalize g:kW w n (Hq T n)=r4;rw[HU,I8]at g;have y7:=z.len;have a:=mM o T n w;refine bX 101 [.cell 2 64] func152 ?_;refine aA fun K i=>?_;simp only[sF,RR,seval];refine aM fun j n1=>?_;have v:=cY n1 a;have U:=v.symm;simp only[RR,seval];refine i _ _ (aI (aP (aA fun K i=>?_)));simp only[sF,RR,seval];refine gO (jZ o z n w hn SO (by decide)) (by(simp only[a,U,aT,seval];done)) trivial fun M1 m7 k7=>?_;have d:=k7 j _ v (bE _ _ _);have a:=m7;simp only[RR,seval];refine i _ _ (aU ?_ ?_)<;>intro a0
 ·have g:=rL a0 g
  rw[bH a0]at a;have y8:=jP a0 (by decide);refine aA fun K i=>?_;simp only[sF,RR,seval];refine dW (Dn o z (n+1) w (by omega)) a trivial fun v5 p5 r5 M2 i6 w9 l5 m8 k8=>?_;have g:=dH g i6;have f:=k8 j _ v d;have d:=f;have a:=m8;simp only[Gk,RR,seval];refine aM fun b3 f6=>?_;have g8:=cY f6 a;have r3:=g8.symm;have q7:=cY f6 d;have q6:=q7.symm;simp only[RR,seval];refine i _ _ (aA fun K i=>?_);simp only[sF,RR,seval];refine dW (fM o z p5 r5 l5 [59] (by decide)) (by(simp only[a,r3,aT,seval];done)) trivial fun v6 ad al M3 i7 x0 z1 m9 d9=>?_;have g:=dH g i7;have f:=d9 j _ v (by(simp only[d,q6,aT,seval];rfl));have i3:=d9 b3 _ g8 (bE _ _ _);have d:=f;have a:=m9;simp only[RR,seval];refine i _ _ (aA fun K i=>?_);simp only[d,i3,sF,RR,seval];apply i;refine aN ?_;simp only[aW,aJ,bN,sF,RR,seval];refine iN (by(simp only[a,U,aT,seval];done)) g ?_ (by omega) (by omega);simp only[Sm.kind,Sm.name,Sm.es,Sm.thn,Sm.els,dO];exact hP.aggR (by repeat' (first|exact iY.nil|exact hP.refl _|exact hP.nsl _|refine iY.cons ?_ ?_))
 have g:=rM a0 g;rw[aL (dQ.1 a0)]at a;refine aA fun K i=>?_;simp only[sF,RR,seval];refine gO (jZ o z n w hn Rj (by decide)) a trivial fun M4 n0 k9=>?_;have f:=k9 j _ v d;have d:=f;have a:=n0;simp only[RR,seval];refine i _ _ (aU ?_ ?_)<;>intro a6
 ·have g:=rL a6 g
  rw[bH a6]at a;have z7:=jP a6 (by decide);refine aA fun K i=>?_;simp only[sF,RR,seval];refine aM fun b4 f8=>?_;have c0:=cY f8 a;have h1:=c0.symm;have q8:=cY f8 d;have g5:=q8.symm;simp only[RR,seval];refine i _ _ (aI (aA fun K i=>?_));simp only[sF,RR,seval];refine gO (jZ o z (n+1) w (by omega) [59] (by decide)) (by(simp only[a,h1,aT,seval];done)) trivial fun M5 n2 e0=>?_;have f:=e0 j _ v (by(simp only[d,g5,aT,seval];rfl));have Y:=e0 b4 _ c0 (bE _ _ _);have d:=f;have a:=n2;simp only[RR,seval];refine i _ _ (aU ?_ ?_)<;>intro W
  ·simp only[dE]at W
   have g:=rM W g;rw[aL (dQ.1 W)]at a;refine aA fun K i=>?_;simp only[sF,RR,seval];refine dW (tH o z (n+1) w (by omega)) a trivial fun v7 p6 r6 M6 i8 x1 l6 n3 e1=>?_;have g:=dH g i8;have f:=e1 j _ v d;have i1:=e1 b4 _ c0 Y;have d:=f;have Y:=i1;have a:=n3;simp only[oI,RR,seval];refine eG ?_;simp only[Y,RR,seval];refine i _ _ (aG ?_);simp only[sF,RR,seval];refine dW (fM o z p6 r6 l6 [59] (by decide)) (by(simp only[a,h1,aT,seval];done)) trivial fun v8 ae am M7 i9 x2 z5 n4 e2=>?_;have g:=dH g i9;have f:=e2 j _ v (by(simp only[d,g5,aT,seval];rfl));have Y:=e2 b4 _ c0 (bE _ _ _);have d:=f;have a:=n4;simp only[RR,seval];refine aA fun K i=>?_;simp only[d,Y,RR,seval];apply i;refine aN ?_;simp only[aW,aJ,bN,RR,seval];refine iN (by(simp only[a,U,aT,seval];done)) g ?_ (by omega) (by omega);simp only[Sm.kind,Sm.name,Sm.es,Sm.thn,Sm.els,cN,dO,Ex.row_eq];exact hP.aggR (by repeat' (first|exact iY.nil|exact hP.refl _|exact hP.nsl _|refine iY.cons ?_ ?_))
  simp only[Br]at W;have g:=rL W g;rw[bH W]at a;have z9:=jP W (by decide);refine aK ?_;simp only[RR];refine aA fun K i=>?_;simp only[d,Y,sF,RR,seval];apply i;refine aN ?_;simp only[aW,aJ,bN,sF,RR,seval];refine iN (by(simp only[a,U,aT,seval];done)) g ?_ (by omega) (by omega);simp only[Sm.kind,Sm.name,Sm.es,Sm.thn,Sm.els,dO];exact hP.aggR (by repeat' (first|exact iY.nil|exact hP.refl _|exact hP.nsl _|refine iY.cons ?_ ?_))
 have g:=rM a6 g;rw[aL (dQ.1 a6)]at a;refine aA fun K i=>?_;simp only[sF,RR,seval];refine gO (jZ o z n w hn YB (by decide)) a trivial fun M8 n5 l0=>?_;have f:=l0 j _ v d;have d:=f;have a:=n5;simp only[RR,seval];refine i _ _ (aU ?_ ?_)<;>intro a1
 ·have g:=rL a1 g
  rw[bH a1]at a;have y9:=jP a1 (by decide);refine aA fun K i=>?_;simp only[sF,RR,seval];refine dW (Dn o z (n+1) w (by omega)) a trivial fun v9 p7 r7 M9 j0 x3 l7 n6 l1=>?_;have g:=dH g j0;have f:=l1 j _ v d;have d:=f;have a:=n6;simp only[Gk,RR,seval];refine aM fun b5 f9=>?_;have c1:=cY f9 a;have d4:=c1.symm;have q9:=cY f9 d;have d3:=q9.symm;simp only[RR,seval];refine i _ _ (aA fun K i=>?_);simp only[sF,RR,seval];refine dW (ih p7 r7 (by omega) l7) (by(simp only[a,d4,aT,seval];done)) trivial fun w0 g4 h3 s9 j1 x4 l8 n7 e3=>?_;have g:=dH g j1;have f:=e3 j _ v (by(simp only[d,d3,aT,seval];rfl));have Z:=e3 b5 _ c1 (bE _ _ _);have d:=f;have a:=n7;simp only[Z,XQ,RR,seval];refine i _ _ (aI (aA fun K i=>?_));simp only[sF,RR,seval];refine gO (jZ o z g4 h3 l8 DU (by decide)) (by(simp only[a,d4,aT,seval];done)) trivial fun t0 n8 e4=>?_;have f:=e4 j _ v (by(simp only[d,d3,aT,seval];rfl));have Z:=e4 b5 _ c1 (bE _ _ _);have d:=f;have a:=n8;simp only[RR,seval];refine i _ _ (aU ?_ ?_)<;>intro a2
  ·have g:=rL a2 g
   rw[bH a2]at a;have z0:=jP a2 (by decide);refine aG ?_;simp only[sF,RR,seval];refine dW (ih (g4+1) h3 (by omega) (by omega)) a trivial fun w1 af an t1 j2 x5 z6 n9 e5=>?_;have g:=dH g j2;have f:=e5 j _ v d;have i2:=e5 b5 _ c1 Z;have d:=f;have Z:=i2;have a:=n9;simp only[Z,XQ,RR,seval];refine aA fun K i=>?_;simp only[d,d3,RR,seval];apply i;refine aN ?_;simp only[aW,aJ,bN,RR,seval];refine iN (by(simp only[a,U,d4,aT,seval];done)) g ?_ (by omega) (by omega);simp only[Sm.kind,Sm.name,Sm.es,Sm.thn,Sm.els];exact hP.aggR (by repeat' (first|exact iY.nil|exact hP.refl _|refine iY.cons ?_ ?_))
  have g:=rM a2 g;rw[aL (dQ.1 a2)]at a;refine aK ?_;simp only[RR];refine aA fun K i=>?_;simp only[d,Z,sF,RR,seval];apply i;refine aN ?_;simp only[aW,aJ,bN,sF,RR,seval];refine iN (by(simp only[a,U,aT,seval];done)) g ?_ (by omega) (by omega);simp only[Sm.kind,Sm.name,Sm.es,Sm.thn,Sm.els,dO];exact hP.aggR (by repeat' (first|exact iY.nil|exact hP.refl _|exact hP.nsl _|refine iY.cons ?_ ?_))
 have g:=rM a1 g;rw[aL (dQ.1 a1)]at a;refine aA fun K i=>?_;simp only[sF,RR,seval];refine gO (jZ o z n w hn D9 (by decide)) a trivial fun t2 o0 l2=>?_;have f:=l2 j _ v d;have d:=f;have a:=o0;simp only[RR,seval];refine i _ _ (aU ?_ ?_)<;>intro a3
 ·have g:=rL a3 g
  rw[bH a3]at a;have z2:=jP a3 (by decide);refine aA fun K i=>?_;simp only[sF,RR,seval];refine dW (Dn o z (n+1) w (by omega)) a trivial fun w2 p8 r8 t3 j3 x6 l9 o1 l3=>?_;have g:=dH g j3;have f:=l3 j _ v d;have d:=f;have a:=o1;simp only[Gk,RR,seval];refine aM fun b6 g1=>?_;have g9:=cY g1 a;have h2:=g9.symm;have r1:=cY g1 d;have g6:=r1.symm;simp only[RR,seval];refine i _ _ (aA fun K i=>?_);simp only[sF,RR,seval];refine dW (ih p8 r8 (by omega) l9) (by(simp only[a,h2,aT,seval];done)) trivial fun w3 ag ao t4 j4 x7 z8 o2 e6=>?_;have g:=dH g j4;have f:=e6 j _ v (by(simp only[d,g6,aT,seval];rfl));have i4:=e6 b6 _ g9 (bE _ _ _);have d:=f;have a:=o2;simp only[i4,XQ,RR,seval];refine i _ _ (aA fun K i=>?_);simp only[d,g6,sF,RR,seval];apply i;refine aN ?_;simp only[aW,aJ,bN,sF,RR,seval];refine iN (by(simp only[a,U,h2,aT,seval];done)) g ?_ (by omega) (by omega);simp only[Sm.kind,Sm.name,Sm.es,Sm.thn,Sm.els,dO];exact hP.aggR (by repeat' (first|exact iY.nil|exact hP.refl _|exact hP.nsl _|refine iY.cons ?_ ?_))
 have g:=rM a3 g;rw[aL (dQ.1 a3)]at a;refine aK ?_;simp only[RR];refine aA fun K i=>?_;simp only[sF,RR,seval];refine dW (oO o z n w hn 1 (by decide)) a trivial fun c3 b0 b1 t5 j5 x8 c9 o3 l4=>?_;have g:=dH g j5;have f:=l4 j _ v d;have d:=f;have a:=o3;simp only[RR,seval];refine aM fun t g3=>?_;have P:=cY g3 a;have V:=P.symm;have r2:=cY g3 d;have Q:=r2.symm;simp only[RR,seval];apply i;simp only[Aw,lZ,PR.bind_ok]at g;refine aI (bM fun X c2 A y=>?_);have B:=A 0;have F:=A 2;have C:=A 7;have D:=y o;have f:=y j;have l:=y t;simp only[a,d,V,Q,RR,seval]at B F C D f l;have a:=D;have d:=f;refine fQ (fun fr M=>aX [0,2,7] X fr∧M j=c2 j∧ ∃(x:Sm) (m:Nat) (w:Bool) (v3:AV),n≤m∧m≤T.length∧kW w m ((fE T [59] m).bind fun _ m=> .ok x m)=r4∧M t=some (.rows 5 [[.int .i64 x.kind, .str x.name,v3, .nsl, .nsl]])∧Lt 5 v3 (x.es.map Ex.row) M∧x.thn=[]∧x.els=[]∧M o=some (.rows 3 [[.isl 4 (T.map gA.row), .int .i64 (m:Nat), .bool w]])∧(∀s k,v3≠ .osl s j k)∧(∀s k,v3≠ .osl s t k)) (fun s8 c4=>?_) ?_
 ·have G:=aX.refl [0,2,7] X
  have p:c2 j=c2 j:=rfl;refine aP (aA fun K i=>?_);simp only[B,sF,RR,seval];refine gO (jZ o z b0 b1 c9 [40] (by decide)) a trivial fun t6 o6 e9=>?_;have f:=e9 j _ v d;have p:=(f.trans d.symm).trans p;have u:=e9 t _ P l;have d:=f;have l:=u;have a:=o6;simp only[RR,seval];refine i _ _ (aU ?_ ?_)<;>intro a4
  ·have g:=rL a4 g
   rw[bH a4]at a;have z3:=jP a4 (by decide);refine aA fun K i=>?_;simp only[C,l,sF,RR,seval];refine i _ _ (aG ?_);simp only[B,sF,RR,seval];refine dW (BD o z (b0+1) b1 (by omega)) (by(simp only[a,V,aT,seval];done)) trivial fun d6 q1 s1 t7 j8 y1 m2 o7 f1=>?_;have g:=dH g j8;have f:=f1 j _ v (by(simp only[d,Q,aT,seval];rfl));have p:=(f.trans d.symm).trans p;have l:=f1 t _ P (bE _ _ _);have d:=f;have a:=o7;simp only[C,l,Gk,RR,seval];refine c4 _ _ ⟨(by repeat (first|exact G|refine aX.upd rfl ?_)),(by(simp only[Q,aT,seval];exact p)), ?_⟩
   (have hq:=d6;exact⟨.mk 6 c3.text d6 [] [],q1,s1,_,by omega,m2,g,by exact bE _ _ _, .inr rfl,rfl,rfl,by(simp only[a,V,aT,seval];done),(fun _ _ h=>by cases h),(fun _ _ h=>by cases h)⟩)
  have g:=rM a4 g;rw[aL (dQ.1 a4)]at a;refine aA fun K i=>?_;simp only[B,sF,RR,seval];refine gO (jZ o z b0 b1 c9 [91] (by decide)) a trivial fun t8 o8 f3=>?_;have f:=f3 j _ v d;have p:=(f.trans d.symm).trans p;have u:=f3 t _ P l;have d:=f;have l:=u;have a:=o8;simp only[RR,seval];refine i _ _ (aU ?_ ?_)<;>intro a5
  ·have g:=rL a5 g
   rw[bH a5]at a;have z4:=jP a5 (by decide);refine aA fun K i=>?_;simp only[C,l,sF,RR,seval];refine i _ _ (bM fun h4 t9 A y=>?_);have H:=A 0;have I:=A 2;have J:=A 7;have D:=y o;have f:=y j;have l:=y t;simp only[B,F,C,a,d,V,Q,RR,seval]at H I J D f l;have G:aX [0,2,7] X h4:=aX.same A (by repeat (first|exact G|refine aX.upd rfl ?_));have p:=(y j).trans (by(simp only[Q,aT,seval];exact p));have B:=H;have F:=I;have C:=J;have a:=D;have d:=f;have N:Al.off AV.nsl j:=fun _ _ h=>by cases h
   have O:Al.off AV.nsl t:=fun _ _ h=>by cases h
   refine aC fun K i=>?_;refine bB (fun x=>x≠j∧x≠t) [(0,3),(1,0),(2,3),(3,1),(4,2),(5,1),(6,3)] [(7,1)] eF (by kernel_rfl) rfl rfl ?_;simp only[*,dR,fX,sF,RR,seval];refine dW (tH o z (b0+1) b1 (by omega)) a (by trivial) fun i0 q2 s2 u1 j9 y2 m3 o9 f4=>?_;have g:=dH g j9;have f:=f4 j _ v d;have p:=(f.trans d.symm).trans p;have u:=f4 t _ P l;have d:=f;have l:=u;have a:=o9;simp only[oI,RR,seval];refine iW (eB.nil 5 _) (by simp only[aQ,aV];omega) (fun b e=>by trivial) fun aj u2 E L R=>?_;have a8:=R j N (by rw[d];exact bY _);have S:=R t O (by rw[l];exact bY _);simp only[C,RR,seval];have D:=L o _ a (by exact((eB.nil 5 _)).nb' a (by decide));have a:=D;have f:=L j _ d (N _ _);have p:=(f.trans d.symm).trans p;have d:=f;have u:=L t _ l (O _ _);have l:=u;have a7:=E.cells;have a9:=E.one1;simp only[a7,a9,cA,List.drop,l,RR,seval];refine i _ _ (bM fun h5 u3 A y=>?_);have H:=A 0;have I:=A 2;have J:=A 7;have D:=y o;have f:=y j;have l:=y t;simp only[B,F,C,a,d,V,Q,RR,seval]at H I J D f l;have G:aX [0,2,7] X h5:=aX.same A (by repeat (first|exact G|refine aX.upd rfl ?_));have p:=(y j).trans (by(simp only[Q,aT,seval];exact p));have E:=(E.off S _).same y;have ac:=E.one1;have w8:=E.cells;have B:=H;have F:=I;have C:=J;have a:=D;have d:=f;refine aA fun K i=>?_;simp only[B,sF,RR,seval];refine dW (fM o z q2 s2 m3 [93] (by decide)) a trivial fun w5 q3 s3 u4 k0 y3 m4 p0 c6=>?_;have g:=dH g k0;have f:=c6 j _ v d;have p:=(f.trans d.symm).trans p;have u:=c6 t _ P l;have d:=f;have l:=u;have E:=eB.kp E a (by decide) c6;have a:=p0;simp only[RR,seval];refine i _ _ (aA fun K i=>?_);simp only[B,sF,RR,seval];refine dW (fM o z q3 s3 m4 [61] (by decide)) a trivial fun w6 q4 s4 u5 k2 y4 m5 p1 c7=>?_;have g:=dH g k2;have f:=c7 j _ v d;have p:=(f.trans d.symm).trans p;have u:=c7 t _ P l;have d:=f;have l:=u;have E:=eB.kp E a (by decide) c7;have a:=p1;simp only[RR,seval];refine i _ _ (bM fun h6 u6 A y=>?_);have H:=A 0;have I:=A 2;have J:=A 7;have D:=y o;have f:=y j;have u:=y t;simp only[B,F,C,a,d,l,RR,seval]at H I J D f u;have G:aX [0,2,7] X h6:=aX.same A (by repeat (first|exact G|refine aX.upd rfl ?_));have p:=(y j).trans p;have E:=E.same y;have N:=a8;have O:=S;have B:=H;have F:=I;have C:=J;have a:=D;have d:=f;have l:=u;refine bB (fun x=>x≠j∧x≠t) [(0,3),(1,0),(2,3),(3,1),(4,2),(5,1),(6,3)] [(7,1)] eF (by kernel_rfl) rfl rfl ?_;simp only[*,dR,fX,sF,RR,seval];refine dW (tH o z q4 s4 m5) a (by trivial) fun d7 q5 s5 u7 k5 y5 m6 p2 c8=>?_;have g:=dH g k5;have f:=c8 j _ v d;have p:=(f.trans d.symm).trans p;have u:=c8 t _ P l;have d:=f;have l:=u;have E:=eB.kp E a (by decide) c8;have a:=p2;simp only[oI,RR,seval];refine iW E (by simp only[aQ,aV];(simp only[cQ,aQ,aV]);omega) (fun b e=>by(repeat' apply And.intro)<;>(intro c;subst c;first|exact N _ _ e|exact O _ _ e)) fun ak u8 d1 L R=>?_;have a8:=R j N (by rw[d];exact bY _);have S:=R t O (by rw[l];exact bY _);simp only[C,RR,seval];have D:=L o _ a (by exact(E).nb' a (by decide));have a:=D;have f:=L j _ d (N _ _);have p:=(f.trans d.symm).trans p;have d:=f;have u:=L t _ l (O _ _);have l:=u;have a7:=d1.cells;have a9:=d1.one1;simp only[a7,a9,cA,List.drop,l,RR,seval];refine c4 _ _ ⟨(by repeat (first|exact G|refine aX.upd rfl ?_)),(by(simp only[Q,aT,seval];exact p)), ?_⟩
   (have hq:=d7;exact⟨.mk 2 c3.text [i0,d7] [] [],q5,s5,_,by omega,m6,g,by exact bE _ _ _, .inl (by simp only[Sm.es,cN,dO,Ex.row_eq];exact d1.off S _),rfl,rfl,by(simp only[a,V,aT,seval];done),a8,S⟩)
  have g:=rM a5 g;rw[aL (dQ.1 a5)]at a;refine aA fun K i=>?_;simp only[B,sF,RR,seval];refine dW (fM o z b0 b1 c9 [61] (by decide)) a trivial fun w4 p9 r9 u9 j6 x9 m0 o4 e7=>?_;have g:=dH g j6;have f:=e7 j _ v d;have p:=(f.trans d.symm).trans p;have u:=e7 t _ P l;have d:=f;have l:=u;have a:=o4;simp only[RR,seval];refine i _ _ (bM fun h7 v0 A y=>?_);have H:=A 0;have I:=A 2;have J:=A 7;have D:=y o;have f:=y j;have u:=y t;simp only[B,F,C,a,d,l,RR,seval]at H I J D f u;have G:aX [0,2,7] X h7:=aX.same A (by repeat (first|exact G|refine aX.upd rfl ?_));have p:=(y j).trans p;have B:=H;have F:=I;have C:=J;have a:=D;have d:=f;have l:=u;have N:Al.off AV.nsl j:=fun _ _ h=>by cases h
  have O:Al.off AV.nsl t:=fun _ _ h=>by cases h
  refine bB (fun x=>x≠j∧x≠t) [(0,3),(1,0),(2,3),(3,1),(4,2),(5,1),(6,3)] [(7,1)] eF (by kernel_rfl) rfl rfl ?_;simp only[*,dR,fX,sF,RR,seval];refine dW (tH o z p9 r9 m0) a (by trivial) fun d5 q0 s0 v1 j7 y0 m1 o5 e8=>?_;have g:=dH g j7;have f:=e8 j _ v d;have p:=(f.trans d.symm).trans p;have u:=e8 t _ P l;have d:=f;have l:=u;have a:=o5;simp only[oI,RR,seval];refine iW (eB.nil 5 _) (by simp only[aQ,aV];omega) (fun b e=>by trivial) fun ai v2 d2 L R=>?_;have a8:=R j N (by rw[d];exact bY _);have S:=R t O (by rw[l];exact bY _);simp only[C,RR,seval];have D:=L o _ a (by exact((eB.nil 5 _)).nb' a (by decide));have a:=D;have f:=L j _ d (N _ _);have p:=(f.trans d.symm).trans p;have d:=f;have u:=L t _ l (O _ _);have l:=u;have a7:=d2.cells;have a9:=d2.one1;simp only[a7,a9,cA,List.drop,l,RR,seval];refine c4 _ _ ⟨(by repeat (first|exact G|refine aX.upd rfl ?_)),(by(simp only[Q,aT,seval];exact p)), ?_⟩
  (have hq:=d5;exact⟨.mk 1 c3.text [d5] [] [],q0,s0,_,by omega,m1,g,by exact bE _ _ _, .inl (by simp only[Sm.es,cN,dO,Ex.row_eq];exact d2.off S _),rfl,rfl,by(simp only[a,V,aT,seval];done),a8,S⟩)
 rintro s6 h8 ⟨b8,f,x,m,w',v3,ab,hm,g,l,d0,p4,i5,a,N,O⟩;have B:=(b8 0 rfl).trans B;have F:=(b8 2 rfl).trans F;have C:=(b8 7 rfl).trans C;have d:=f.trans d;clear b8;simp only[RR,seval];have h0:h8 t=some (.rows 5 [[.int .i64 x.kind, .str x.name]++v3::[.nsl, .nsl]]):=l;refine CC d0 h0 (fun x hx=>by simp only[bP,bO,dF]at hx;rcases hx with rfl|rfl<;>exact bS rfl) (fun x hx=>by simp only[bP,bO,dF]at hx;rcases hx with rfl|rfl<;>exact bS rfl) O fun s7 h9 b9 d8 c5=>?_;have B:=(b9 0 (by rw[B];rfl)).trans B;have F:=(b9 2 (by rw[F];rfl)).trans F;have C:=(b9 7 (by rw[C];rfl)).trans C;have a:=c5 o _ _ V (d0.offsz a (by decide)) rfl a;have d:=c5 j _ _ Q N rfl d;have l:h9 t=some (.rows 5 [[.int .i64 x.kind, .str x.name, .isl 5 (x.es.map Ex.row), .nsl, .nsl]]):=d8;clear d8 h0 b9 c5 d0;refine aA fun K i=>?_;simp only[B,sF,RR,seval];refine dW (fM o z m w' hm [59] (by decide)) a trivial fun w7 ah ap v4 k6 y6 aa p3 f5=>?_;have g:=dH g k6;have f:=f5 j _ v d;have u:=f5 t _ P l;have d:=f;have l:=u;have a:=p3;simp only[RR,seval];refine i _ _ (aA fun K i=>?_);simp only[*,sF,RR,seval];apply i;refine aN ?_;simp only[aW,aJ,bN,F,sF,RR,seval];refine iN (by(simp only[a,U,aT,seval];done)) g ?_ (by omega) (by omega);simp only[p4,i5,dO];exact hP.aggR (by repeat' (first|exact iY.nil|exact hP.refl _|exact hP.nsl _|refine iY.cons ?_ ?_))
theorem J2 (a:Nat) {T:List gA} (e:Sz T) (k:Nat): ∀n w,n≤T.length→T.length-n≤k→Iz a T n w∧Tq a T n w:=by
 induction k using Nat.strongRecOn with
 |_ k ih=>
  intro n w f j;have g: ∀w,Iz a T n w:=fun w=>J3 a e n w f fun m b i d=>(ih (T.length-m) (by omega) m b d (bI _)).2;refine⟨g w,J9 a e n w f fun m b i d=>?_⟩;by_cases c:m=n
  ·subst c;exact g b
  exact(ih (T.length-m) (by omega) m b d (bI _)).1
theorem AU (a:Nat) {T:List gA} (b:Sz T) (n:Nat) (w:Bool) (c:n≤T.length):pU 152 [] a T n w sF (kW w n (Hq T n)):=(J2 a b _ n w c (bI _)).1
def N4 (T:List gA) (nm:dC) (ps:List dC) (m:Nat) (b:Bool):PR Fu:=(fE T [123] (if b=true then m+1 else m)).bind fun _ c=>(Yc T [] c).bind fun ls c=>OY T nm ps b ls c
theorem OX (T:List gA) (a:dC) (b:List dC) (m:Nat):UC T a b m=(fE T [41] m).bind fun _ m=>N4 T a b m (decide (eD T m=sU)):=by
 unfold UC N4;simp only[bJ]
def KJ (T:List gA) (n:Nat):PR Fu:=(kG T 1 n).bind fun t m=>(fE T [40] m).bind fun _ m=>
 if eD T m=[41]then N4 T t.text [] (m+1) (decide (eD T (m+1)=sU))else(pD T m).bind fun ps m=>(fE T [41] m).bind fun _ m=>N4 T t.text ps m (decide (eD T m=sU))
theorem KL (T:List gA) (n:Nat):Nw T n=(fE T zR n).bind fun _ m=>KJ T m:=by
 rw[OW];refine PR.bind_congr rfl fun _ m _=>PR.bind_congr rfl fun t a _=>PR.bind_congr rfl fun _ c _=>?_;simp only[OX];by_cases b:eD T c=[41]
 ·have d: ¬nP T c=1:=fun d=>by
   unfold eD at b;unfold nP at d
   cases hg:T[c]? with
   |none=>rw[hg]at b;cases b
   |some t=>
    rw[hg]at b d;simp only at b d;rw[aL (by omega)]at b;cases b
  have e:fE T [41] c= .ok () (c+1):=bH b;rw[aL d,bH b,PR.bind_ok,e,PR.bind_ok]
 rw[aL b];by_cases d:nP T c=1
 ·rw[bH d]
 have e:fE T [41] c= .bad c:=aL b
 have f:kG T 1 c= .bad c:=by
  unfold kG;unfold nP at d
  cases hg:T[c]? with
  |none=>rfl
  |some t=>rw[hg]at d;exact aL d
 rw[aL d,PR.bind_ok,e,PR.bind_bad];unfold pD;rw[f];rfl
theorem MV {b:Type} {T:List gA} {w:Bool} {m:Nat} {s:dC} {G:Bool→PR b} {a:PR b} (h:kW w m (G (decide (eD T m=s)))=a):kW w (if Pz T w m s=true then m+1 else m) (G (Pz T w m s))=a:=by
 cases w with
 |true=>exact h
 |false=>exact h
theorem Yj (B:Nat) {T:List gA} (Q:Sz T) (n:Nat) (w:Bool) (hn:n≤T.length):pU 103 [] B T n w XW (kW w n (KJ T n)):=by
 unfold pU;generalize j:kW w n (KJ T n)=c3;unfold KJ at j;have p0:=Q.len;have d:=mM B T n w;refine bX 51 [.cell 2 58] func103 ?_;refine aA fun K H=>?_;simp only[RR,seval];refine aM fun l b9=>?_;have O:=cY b9 d;have f8:=O.symm;simp only[RR,seval];refine H _ _ (aA fun K H=>?_);simp only[RR,seval];refine dW (oO B Q n w hn 1 (by decide)) (by(simp only[d,f8,aT,seval];done)) trivial fun R m5 w5 M1 i3 o8 j2 k5 i5=>?_;have j:=dH j i3;have f:=i5 l _ O (bE _ _ _);have d:=k5;simp only[RR,seval];refine aM fun u f4=>?_;have S:=cY f4 d;have a7:=S.symm;have l4:=cY f4 f;have a3:=l4.symm;simp only[RR,seval];refine H _ _ (aA fun K H=>?_);simp only[RR,seval];refine dW (fM B Q m5 w5 j2 [40] (by decide)) (by(simp only[d,a7,aT,seval];done)) trivial fun a9 m9 w9 M2 i4 o9 e8 k6 e6=>?_;have j:=dH j i4;have g:=e6 l _ O (by(simp only[f,a3,aT,seval];rfl));have i:=e6 u _ S (bE _ _ _);have f:=g;have d:=k6;simp only[RR,seval];refine H _ _ (aI (aA fun K H=>?_));simp only[RR,seval];refine gO (jZ B Q m9 w9 e8 [41] (by decide)) d trivial fun M3 j3 e1=>?_;have g:=e1 l _ O f;have o:=e1 u _ S i;have f:=g;have i:=o;have d:=j3;simp only[RR,seval];refine H _ _ (bM fun F4 M4 y p=>?_);have A:=y 0;have C:=y 2;have z:=y 3;have d8:=y 12;have D:=p B;have g:=p l;have o:=p u;simp only[d,f,i,RR,seval]at A C z d8 D g o;have d:=D;have f:=g;have i:=o;refine fQ (fun fr M=>aX [0,2,3] F4 fr∧M l=M4 l∧ ∃(ps:List dC) (m:Nat) (w:Bool) (Y:AV),n≤m∧m≤T.length∧kW w m (N4 T R.text ps m (decide (eD T m=sU)))=c3∧M u=some (.rows 5 [[.str R.text,Y, .nsl, .bool false, .nsl]])∧one Y=true∧tK Y=true∧Al.hP Y (.isl 1 (ps.map bQ))∧M B=some (.rows 3 [[.isl 4 (T.map gA.row), .int .i64 (m:Nat), .bool w]])) (fun m3 e0=>?_) ?_
 ·have d7:=aX.refl [0,2,3] F4
  have a8:M4 l=M4 l:=rfl;refine dN _ d8 (fun a0=>?_) (fun a0=>?_)
  ·simp only[dE]at a0
   have j:=rM a0 j;rw[aL (dQ.1 a0)]at d;refine aA fun K H=>?_;simp only[A,RR,seval];refine dW (J6 B Q m9 w9 e8) d trivial fun g9 l1 l5 M5 h8 o3 i8 j4 e2=>?_;have j:=dH j h8;have g:=e2 l _ O f;have a8:=(g.trans f.symm).trans a8;have o:=e2 u _ S i;have f:=g;have i:=o;have d:=j4;simp only[z,i,strs,RR,seval];refine H _ _ (aG ?_);simp only[A,RR,seval];refine dW (fM B Q l1 l5 i8 [41] (by decide)) (by(simp only[d,a7,aT,seval];done)) trivial fun n8 l2 l6 M6 h9 o4 p1 j5 e3=>?_;have j:=dH j h9;have g:=e3 l _ O (by(simp only[f,a3,aT,seval];rfl));have a8:=(g.trans f.symm).trans a8;have i:=e3 u _ S (bE _ _ _);have f:=g;have d:=j5;simp only[RR,seval];refine e0 _ _ ⟨(by repeat (first|exact d7|refine aX.upd rfl ?_)),a8, ?_⟩;exact⟨g9,l2,l6,_,by omega,by omega,j,by exact i,rfl,rfl,hP.refl _,by exact d⟩
  simp only[Br]at a0;have j:=rL a0 j;rw[bH a0]at d;have p2:=jP a0 (by decide);refine aK ?_;simp only[RR];refine e0 _ _ ⟨(by repeat (exact d7)),a8, ?_⟩;exact⟨[],m9+1,w9,_,by omega,by omega,j,by exact i,rfl,rfl,hP.nsl _,by exact d⟩
 rintro F7 M7 ⟨L,g,ps,m,E,Y,d1,hm,j,i,w1,d9,sR,d⟩;have A:=(L 0 rfl).trans A;have C:=(L 2 rfl).trans C;have z:=(L 3 rfl).trans z;have f:=g.trans f;clear L;simp only[RR,seval];refine aA fun K H=>?_;simp only[A,RR,seval];refine gO (jZ B Q m E hm sU (by decide)) d trivial fun M8 j6 e4=>?_;have g:=e4 l _ O f;have o:=e4 u _ S i;have f:=g;have i:=o;have d:=j6;simp only[z,i,RR,seval];apply H;have j:=MV (G:=fun b=>N4 T R.text ps m b) j;simp only[N4]at j
 have e9:(if Pz T E m sU=true then m+1 else m)≤T.length∧m≤(if Pz T E m sU=true then m+1 else m):=by
  split
  ·rename_i hw;have:=jP hw (by decide);omega
  omega
 generalize(if Pz T E m sU=true then m+1 else m)=mw at j d e9;generalize Pz T E m sU=wd at j⊢;refine aA fun K H=>?_;simp only[A,RR,seval];refine dW (fM B Q mw E e9.1 [123] (by decide)) (by(simp only[d,a7,aT,seval];done)) trivial fun n9 f6 l7 M9 i0 o5 i9 j7 e5=>?_;have j:=dH j i0;have g:=e5 l _ O (by(simp only[f,a3,aT,seval];rfl));have i:=e5 u _ S (bE _ _ _);have f:=g;have d:=j7;simp only[RR,seval];refine H _ _ (aI (bM fun l9 g5 y p=>?_));have N:=y 0;have I:=y 2;have J:=y 3;have g:=p l;have o:=p u;have D:=p B;simp only[A,C,z,f,i,d,RR,seval]at N I J g o D;have A:=N;have C:=I;have z:=J;have f:=g;have i:=o;have d:=D;refine aP (iV [0,2,3] (T.length-f6) (fun k fr M=>M l=g5 l∧(∃(m:Nat) (w:Bool) (U:List dC) (v:AV),k=T.length-m∧n≤m∧m≤T.length∧U.length≤1000001 *(m+1)∧kW w m ((Yc T U m).bind fun ls c=>OY T R.text ps wd ls c)=c3∧eB 1 v (U.map bQ) M∧M u=some (.rows 5 [[.str R.text,Y,v, .bool wd, .nsl]])∧M B=some (.rows 3 [[.isl 4 (T.map gA.row), .int .i64 (m:Nat), .bool w]]))) ⟨rfl,f6,l7,[], .nsl,rfl,by omega,i9,cJ _,j, .inl ⟨rfl,rfl⟩,by exact i,d⟩ ?_);rintro k c4 m4 ⟨g,m,E,U,v,rfl,d1,hm,o1,j,t,i,d⟩ L K0 h3;have A:=(L 0 rfl).trans A;have C:=(L 2 rfl).trans C;have z:=(L 3 rfl).trans z;have f:=g.trans f;have b1:=aX.refl [0,2,3] c4;have P:=g;clear L;have a2:=t.offsz i (by decide);have k8:=t.one1;have h5:=t.cells;rw[OA]at j;simp only[Aw,lZ,PR.bind_ok]at j;refine aI (aA fun K H=>?_);simp only[A,RR,seval];refine gO (jZ B Q m E hm Y1 (by decide)) d trivial fun m6 j8 c7=>?_;have g:=c7 l _ O f;have P:=(g.trans f.symm).trans P;have o:=c7 u _ S i;have f:=g;have i:=o;have t:=eB.kp t d (by decide) c7;have d:=j8;simp only[RR,seval];refine H _ _ (aU ?_ ?_)<;>intro hc
 ·have b0:=hc;clear hc
  have j:=rL b0 j;rw[bH b0]at d;have i7:=jP b0 (by decide);refine aK ?_;simp only[RR];refine aP (bM fun f9 m7 y p=>?_);have N:=y 0;have I:=y 2;have J:=y 3;have g:=p l;have D:=p B;have o:=p u;simp only[A,C,z,f,d,i,RR,seval]at N I J g D o;have b1:aX [0,2,3] c4 f9:=aX.same y (by repeat (first|exact b1|refine aX.upd rfl ?_));have P:=(p l).trans P;have t:=t.same p;have A:=N;have C:=I;have z:=J;have f:=g;have d:=D;have i:=o;refine aC fun K H=>?_;refine bB (fun x=>x≠u∧x≠l) [(0,3),(1,0),(2,3),(3,1),(4,1),(5,3)] [(6,1)] eF (by kernel_rfl) rfl rfl ?_;simp only[*,dR,fX,RR,seval];refine W8 (wL B Q (m+1) E (by omega)) d (by trivial) fun h1 l3 l8 m8 i1 o6 j0 o2 j9 c8=>?_;have j:=dH j i1;have g:=c8 l _ O f;have P:=(g.trans f.symm).trans P;have o:=c8 u _ S i;have f:=g;have i:=o;have t:=eB.kp t d (by decide) c8;have d:=j9;simp only[strs,Iq,RR,seval];refine iW t (by simp only[aE];omega) (fun b e=>by(repeat' apply And.intro)<;>(intro c;subst c;first|exact a2 _ _ e|exact t.nb' f (by decide) e)) fun v9 n0 V a6 b7=>?_;have c2:=b7 u a2 (by rw[i];exact bY _);simp only[z,RR,seval];have g:=a6 l _ f (by exact(t).nb' f (by decide));have P:=(g.trans f.symm).trans P;have f:=g;have D:=a6 B _ d (by exact(t).nb' d (by decide));have d:=D;have o:=a6 u _ i (by exact(t).nb' i (by decide));have i:=o;have c6:=V.cells;have d2:=V.one1;simp only[c6,d2,cA,List.drop,i,RR,seval];refine H _ _ (bM fun g1 n1 y p=>?_);have N:=y 0;have I:=y 2;have J:=y 3;have g:=p l;have D:=p B;have i:=p u;simp only[A,C,z,f,d,a7,a3,RR,seval]at N I J g D i;have b1:aX [0,2,3] c4 g1:=aX.same y (by repeat (first|exact b1|refine aX.upd rfl ?_));have P:=(p l).trans (by(simp only[a3,aT,seval];exact P));have V:=(V.off c2 _).same p;have A:=N;have C:=I;have z:=J;have f:=g;have d:=D;refine aG ?_;simp only[A,RR,seval];refine dW (fM B Q l3 l8 j0 [59] (by decide)) d trivial fun o0 f7 E1 n3 i2 o7 j1 k0 c9=>?_;have j:=dH j i2;have g:=c9 l _ O f;have P:=(g.trans f.symm).trans P;have o:=c9 u _ S i;have f:=g;have i:=o;have V:=eB.kp V d (by decide) c9;have d:=k0;simp only[RR,seval];refine h3 (T.length-f7) _ _ (by omega) ⟨P,f7,E1,U++h1,_,rfl,by omega,j1,by simp only[aH];omega,j,by rw[cO];exact V,by exact i,by exact d⟩ (by repeat (first|exact b1|refine aX.upd rfl ?_))
 have b0:=hc;have j:=rM b0 j;rw[aL (dQ.1 b0)]at d;simp only[OY]at j;refine cF ?_;simp only[RR,seval];refine aI (bM fun m0 g6 y p=>?_);have N:=y 0;have I:=y 2;have J:=y 3;have g:=p l;have D:=p B;have o:=p u;simp only[A,C,z,f,d,i,RR,seval]at N I J g D o;have t:=t.same p;have A:=N;have C:=I;have z:=J;have f:=g;have d:=D;have i:=o;have h0:g6 u=some (.rows 5 [[.str R.text,Y]++v::[.bool wd, .nsl]]):=i;refine iF t h0 (fun x F=>by simp only[bP,bO,dF]at F;rcases F with rfl|rfl;exact bS rfl;exact bS d9) (fun x F=>by simp only[bP,bO,dF]at F;rcases F with rfl|rfl<;>exact bS rfl) a2 fun F8 M8 a1 b4 a4=>?_;have A:=(a1 0 (by rw[A];exact bS rfl)).trans A;have C:=(a1 2 (by rw[C];exact bS rfl)).trans C;have z:=(a1 3 (by rw[z];exact bS rfl)).trans z;have d:=a4 B _ _ a7 (t.offsz d (by decide)) (fun r W x F=>by simp only[bD]at W;subst W;simp only[bP,bO,dF]at F;rcases F with rfl|rfl|rfl<;>exact bS rfl) d;have f:=a4 l _ _ a3 (t.offsz f (by decide)) (fun r W x F=>by simp only[bD]at W;subst W;simp only[bP,bO,dF]at F;rcases F with rfl|rfl|rfl|rfl|rfl<;>exact bS rfl) f;have i:M8 u=some (.rows 5 [[.str R.text,Y, .isl 1 (U.map bQ), .bool wd, .nsl]]):=b4;clear b4 h0 t a1 a4;refine aP (iV [0,2,3] (Ns T m E) (fun k fr M=>M l=M8 l∧(∃(m:Nat) (E:Bool) (ss:List Sm) (v:AV),k=Ns T m E∧n≤m∧m≤T.length∧ss.length≤m+1∧(E=false→ss.length≤m)∧kW E m ((sO T ss m).bind fun b c=> .ok ⟨R.text,ps,U,wd,b⟩ c)=c3∧eB 5 v (ss.map Sm.row) M∧Al.off v l∧Al.off v u∧M u=some (.rows 5 [[.str R.text,Y, .isl 1 (U.map bQ), .bool wd,v]])∧M B=some (.rows 3 [[.isl 4 (T.map gA.row), .int .i64 (m:Nat), .bool E]]))) ⟨rfl,m,E,[], .nsl,rfl,d1,hm,cJ _,fun _=>cJ _,j, .inl ⟨rfl,rfl⟩,(fun _ _ h=>by cases h),(fun _ _ h=>by cases h),i,d⟩ ?_);rintro k d6 n4 ⟨g,m,E,ss,v,rfl,d1,hm,k9,l0,j,t,c1,a2,i,d⟩ L K2 h4;have A:=(L 0 rfl).trans A;have C:=(L 2 rfl).trans C;have z:=(L 3 rfl).trans z;have f:=g.trans f;have c5:=aX.refl [0,2,3] d6;have Z:=g;clear L;have k8:=t.one1;have h5:=t.cells;rw[Oj]at j;simp only[Aw,lZ,PR.bind_ok]at j;have h7:=jZ B Q m E hm [125] (by decide)
 all_goals
  refine aI (aA fun K H=>?_);simp only[A,d,RR,seval]
  all_goals ((refine bZ (fun h=>?_) (fun h=>?_))<;>simp only[h,A,RR,seval])
  all_goals try ((refine gO h7 d trivial fun M9 f5 b5=>?_;have t:=eB.kp t d (by decide) b5;have Z:=((b5 l _ O f).trans f.symm).trans Z;have f:=b5 l _ O f;have i:=b5 u _ S i;have d:=f5;clear f5 b5);simp only[RR,seval])
  all_goals
   refine H _ _ (aU ?_ ?_)<;>intro hc
   ·try (cases hc;done)
    all_goals
     have d3:=hc;clear hc;have b6:E=false:=by simpa using h
     have hq:Pz T E m [125]=false:=by simpa using d3
     have j:=rM hq j;rw[aL (dQ.1 hq)]at d;have k9:=l0 b6;refine aK ?_;simp only[RR];refine aP (bM fun g4 n5 y p=>?_);have N:=y 0;have I:=y 2;have J:=y 3;have g:=p l;have D:=p B;have o:=p u;simp only[A,C,z,f,d,i,RR,seval]at N I J g D o;have c5:aX [0,2,3] d6 g4:=aX.same y (by repeat (first|exact c5|refine aX.upd rfl ?_));have Z:=(p l).trans Z;have t:=t.same p;have A:=N;have C:=I;have z:=J;have f:=g;have d:=D;have i:=o;refine bB (fun x=>x≠u∧x≠l) [(0,3),(1,0),(2,3),(3,1),(4,2),(5,1),(6,3)] [(7,1)] eF (by kernel_rfl) rfl rfl ?_;simp only[*,dR,fX,RR,seval];refine dW (AU B Q m E hm) d (by trivial) fun h2 d4 d5 n6 b8 i6 e7 k2 d0=>?_;have j:=dH j b8;have g:=d0 l _ O f;have Z:=(g.trans f.symm).trans Z;have o:=d0 u _ S i;have f:=g;have i:=o;have t:=eB.kp t d (by decide) d0;have d:=k2;simp only[sF,RR,seval];refine iW t (by simp only[aE,aQ,aV];omega) (fun b e=>by(repeat' apply And.intro)<;>(intro c;subst c;first|exact c1 _ _ e|exact a2 _ _ e)) fun p3 n7 V a6 b7=>?_;have k7:=b7 l c1 (by rw[f];exact bY _);have c2:=b7 u a2 (by rw[i];exact bY _);simp only[z,RR,seval];have g:=a6 l _ f (c1 _ _);have Z:=(g.trans f.symm).trans Z;have f:=g;have D:=a6 B _ d (by exact(t).nb' d (by decide));have d:=D;have o:=a6 u _ i (a2 _ _);have i:=o;have c6:=V.cells;have d2:=V.one1;simp only[c6,d2,cA,List.drop,i,RR,seval];have i7:=Ti b6 hm e7 i6 b8 fun a m' h=>(xL h).1
     have h6:d5=false→m<d4:=fun e=>by
      subst e;subst b6;rw[nF,nF]at b8;exact(xL b8.symm).1
     refine h4 (Ns T d4 d5) _ _ (by omega) ⟨(by(simp only[a3,aT,seval];exact Z)),d4,d5,ss++[h2],_,rfl,by omega,e7,by simp only[aH,aQ,aV];omega,fun e=>by have:=h6 e;simp only[aH,aQ,aV];omega,j,by rw[Xe];exact V.off c2 _,k7,c2,bE _ _ _,by(simp only[d,a7,aT,seval];done)⟩ (by repeat (first|exact c5|refine aX.upd rfl ?_))
   try (cases hc;done)
   all_goals
    have d3:=hc
    first
     |(have b6:E=true:=by simpa using h
       subst b6;obtain⟨X,c0⟩: ∃X:Nat,X=m:=⟨_,rfl⟩;have j:kW true X (PR.ok (⟨R.text,ps,U,wd,ss⟩:Fu) X)=c3:=by rw[c0];exact j
       rw[←c0]at d;have f1:n≤X:=by omega
       have b9:X≤T.length:=by omega)
     |(have hq:Pz T E m [125]=true:=by simpa using d3
       have j:=rL hq j;have:=jP hq (by decide);rw[bH hq]at d;obtain⟨X,c0⟩: ∃X:Nat,X=m+1:=⟨_,rfl⟩;rw[←c0]at j d;have f1:n≤X:=by omega
       have b9:X≤T.length:=by omega)
    refine cF ?_;simp only[RR,seval];refine bM fun m1 g7 y p=>?_;have I:=y 2;have J:=y 3;have g:=p l;have D:=p B;have o:=p u;simp only[C,z,f,d,i,RR,seval]at I J g D o;have t:=t.same p;have C:=I;have z:=J;have f:=g;have d:=D;have i:=o;have h0:g7 u=some (.rows 5 [[.str R.text,Y, .isl 1 (U.map bQ), .bool wd]++v::[]]):=i;refine iF t h0 (fun x F=>by simp only[bP,bO,dF]at F;rcases F with rfl|rfl|rfl|rfl<;>first|exact bS rfl|exact bS d9) (fun x F=>by cases F) a2 fun m2 g8 a1 b4 a4=>?_;have C:=(a1 2 (by rw[C];exact bS rfl)).trans C;have z:=(a1 3 (by rw[z];exact bS rfl)).trans z;have d:=a4 B _ _ a7 (t.offsz d (by decide)) (fun r W x F=>by simp only[bD]at W;subst W;simp only[bP,bO,dF]at F;rcases F with rfl|rfl|rfl<;>exact bS rfl) d;have f:=a4 l _ _ a3 c1 (fun r W x F=>by simp only[bD]at W;subst W;simp only[bP,bO,dF]at F;rcases F with rfl|rfl|rfl|rfl|rfl<;>exact bS rfl) f;have i:g8 u=some (.rows 5 [[.str R.text,Y, .isl 1 (U.map bQ), .bool wd, .isl 5 (ss.map Sm.row)]]):=b4;clear b4 h0 a1 a4;refine aA fun K H=>?_;simp only[*,w1,RR,seval];apply H;refine aN ?_;simp only[aW,aJ,bN,C,RR,seval];refine iN (by(simp only[d,f8,aT,seval];done)) j ?_ f1 b9;exact hP.aggR (iY.cons (hP.refl _) (iY.cons sR (iY.cons (hP.refl _) (iY.cons (hP.refl _) (iY.cons (hP.refl _) iY.nil)))))
theorem JW {g:Type} {T:List gA} (i:Sz T) {w c:Bool} {n b:Nat} {a:gA} {k:Int} (d:kW c b (PR.ok a b)=kW w n (kG T k n)) {G:Int→PR g} {f:PR g} (h:kW c b (G a.num)=f):kW c b (G (IntKind.wrap .i64 a.num))=f:=by
 cases c with
 |true=>exact h
 |false=>
  cases w with
  |true=>cases d
  |false=>
   rw[nF,nF]at d;have j:=kK d.symm;have e:=(i.tok _ (aZ j.2.2.1)).1;rw[aS _ (by have:=e.1;have:=e.2;omega)];exact h
def Ek (T:List gA) (vs:List dC) (ar:List Ar) (fs:List Fu) (m:Nat):PR Pg:=(KJ T m).bind fun g m=>(Jj T (fs++[g]) m).bind fun fs m=> .ok ⟨vs,ar,fs⟩ m
theorem T8 (T:List gA) (vs:List dC) (a:List Ar) (m:Nat):Pj T (vs,a) m=(fE T zR m).bind fun _ m=>Ek T vs a [] m:=by
 unfold Pj;rw[KL,lZ];simp only[Ek,cQ]
theorem KH (T:List gA) (vs:List dC) (b:List Ar) (a:List Fu) (m:Nat) (h:m<T.length):((Jj T a m).bind fun a m=>(.ok ⟨vs,b,a⟩ m:PR Pg))=(fE T zR m).bind fun _ m=>Ek T vs b a m:=by
 rw[Ji,bH h,KL,lZ,lZ];simp only[Ek]
theorem BA (F:Nat) {T:List gA} (hT:Sz T) (n:Nat) (w:Bool) (hn:n≤T.length):pU 65 [] F T n w ZB (kW w n (Em T n)):=by
 unfold pU;generalize p:kW w n (Em T n)=c1;rw[IU]at p;have w1:=hT.len;have d:=mM F T n w;refine bX 78 [.cell 2 26] func65 ?_;refine aA fun K I=>?_;simp only[RR,seval];refine aM fun y c0=>?_;have a4:=cY c0 d;have d4:=a4.symm;simp only[RR,seval];refine I _ _ (aA fun K I=>?_);simp only[RR,seval];refine aM fun z g7=>?_;have a5:z≠F:=fun e=>by rw[e]at g7;simp only[d,d4,RR,seval,reduceCtorEq]at g7
 have a8:=a5.symm;have q8:z≠y:=fun e=>by rw[e]at g7;simp only[RR,seval,reduceCtorEq]at g7
 have a3:=q8.symm;simp only[RR,seval];refine I _ _ (aI (bM fun F1 M1 o j=>?_));have u:=o 0;have A:=o 2;have B:=o 3;have C:=j F;have f:=j y;have g:=j z;simp only[d,d4,a8,a3,RR,seval]at u A B C f g;have d:=C;refine aP (iV [0,2,3] (T.length-n) (fun k fr M=>M y=M1 y∧(∃(m:Nat) (V:Bool) (vs:List dC) (U:List Ar) (v1 v2:AV),k=T.length-m∧n≤m∧m≤T.length∧vs.length≤1000001 *(m+1)∧U.length≤m∧kW V m ((Eu T vs U m).bind (Pj T))=c1∧eB 1 v1 (vs.map bQ) M∧eB 2 v2 (U.map Ar.row) M∧M z=some (.rows 3 [[v1,v2, .nsl]])∧M F=some (.rows 3 [[.isl 4 (T.map gA.row), .int .i64 (m:Nat), .bool V]]))) ⟨rfl,n,w,[],[], .nsl, .nsl,rfl,bI _,hn,cJ _,cJ _,p, .inl ⟨rfl,rfl⟩, .inl ⟨rfl,rfl⟩,g,d⟩ ?_);rintro k F2 M2 ⟨i,m,V,vs,U,v1,v2,rfl,j9,hm,w7,u6,p,H,D,g,d⟩ a7 K0 j5;have u:=(a7 0 rfl).trans u;have A:=(a7 2 rfl).trans A;have B:=(a7 3 rfl).trans B;have f:=i.trans f;have a9:=aX.refl [0,2,3] F2;have Q:=i;clear a7;have Z:=H.offsz g (by decide);have g8:=D.offsz g (by decide);have w5:=H.one1;have u7:=H.cells;have w6:=D.one1;have u8:=D.cells;refine aI (aA fun K I=>?_);simp only[u,d,RR,seval];refine I _ _ (aU ?_ ?_)<;>intro hc
 ·have j0:=hc;clear hc
  rw[KF]at p;simp only[Aw,lZ,PR.bind_ok]at p;refine aK ?_;simp only[RR];refine aP (aI (aA fun K I=>?_));simp only[u,RR,seval];refine gO (jZ F hT m V hm Y1 (by decide)) d trivial fun M3 p4 f8=>?_;have i:=f8 y _ a4 f;have Q:=(i.trans f.symm).trans Q;have t:=f8 z _ a5 g;have f:=i;have g:=t;have H:=eB.kp H d (by decide) f8;have D:=eB.kp D d (by decide) f8;have d:=p4;simp only[RR,seval];refine I _ _ (aU ?_ ?_)<;>intro d8
  ·have p:=rL d8 p
   rw[bH d8]at d;have w2:=jP d8 (by decide);refine bM fun F4 M4 o j=>?_;have J:=o 0;have L:=o 2;have N:=o 3;have i:=j y;have C:=j F;have t:=j z;simp only[u,A,B,f,d,g,RR,seval]at J L N i C t;have a9:aX [0,2,3] F2 F4:=aX.same o (by repeat (first|exact a9|refine aX.upd rfl ?_));have Q:=(j y).trans Q;have H:=H.same j;have D:=D.same j;have u:=J;have A:=L;have B:=N;have f:=i;have d:=C;have g:=t;refine aC fun K I=>?_;refine bB (fun x=>x≠z∧x≠y) [(0,3),(1,0),(2,3),(3,1),(4,1),(5,3)] [(6,1)] eF (by kernel_rfl) rfl rfl ?_;simp only[*,dR,fX,RR,seval];refine W8 (wL F hT (m+1) V (by omega)) d (by trivial) fun j4 q4 r2 M5 n8 v0 o6 u9 p5 f9=>?_;have p:=dH p n8;have i:=f9 y _ a4 f;have Q:=(i.trans f.symm).trans Q;have t:=f9 z _ a5 g;have f:=i;have g:=t;have H:=eB.kp H d (by decide) f9;have D:=eB.kp D d (by decide) f9;have d:=p5;simp only[strs,Iq,RR,seval];refine iW H (by simp only[aE];omega) (fun b e=>by(repeat' apply And.intro)<;>(intro c;subst c;first|exact Z _ _ e|exact H.nb' f (by decide) e)) fun v4 M6 c3 a2 c2=>?_;have b1:=c2 z Z (by rw[g];exact bY _);simp only[B,RR,seval];have i:=a2 y _ f (by exact(H).nb' f (by decide));have Q:=(i.trans f.symm).trans Q;have f:=i;have C:=a2 F _ d (by exact(H).nb' d (by decide));have d:=C;have t:=a2 z _ g (by exact(H).nb' g (by decide));have g:=t;have c5:=c3.cells;have d0:=c3.one1;simp only[c5,d0,cA,List.drop,g,RR,seval];apply I;have D:=D.app2 H (by decide) a2;refine bM fun F7 M7 o j=>?_;have J:=o 0;have L:=o 2;have N:=o 3;have i:=j y;have C:=j F;have g:=j z;simp only[u,A,B,f,d,a8,a3,RR,seval]at J L N i C g;have a9:aX [0,2,3] F2 F7:=aX.same o (by repeat (first|exact a9|refine aX.upd rfl ?_));have Q:=(j y).trans (by(simp only[a3,aT,seval];exact Q));have c3:=(c3.off b1 _).same j;have D:=(D.off g8 _).same j;have u:=J;have A:=L;have B:=N;have f:=i;have d:=C;refine aA fun K I=>?_;simp only[u,RR,seval];refine dW (fM F hT q4 r2 o6 [59] (by decide)) d trivial fun u2 j1 k6 M8 n9 v5 j7 p6 g1=>?_;have p:=dH p n9;have i:=g1 y _ a4 f;have Q:=(i.trans f.symm).trans Q;have t:=g1 z _ a5 g;have f:=i;have g:=t;have c3:=eB.kp c3 d (by decide) g1;have D:=eB.kp D d (by decide) g1;have d:=p6;simp only[RR,seval];apply I;obtain⟨mz,p3⟩: ∃mz:Nat,mz=j1:=⟨_,rfl⟩;refine cF ?_;simp only[RR,seval];refine j5 (T.length-mz) _ _ (by omega) ⟨Q, ?_⟩ (by repeat (first|exact a9|refine aX.upd rfl ?_))
   first
    |(refine⟨j1,k6,vs++j4,U,_,v2, ?_, ?_,j7, ?_, ?_, ?_, ?_,D,g,d⟩;omega;omega;(simp only[aH];omega);omega;exact p;(rw[cO];exact c3))
    |(refine⟨j3,k8,vs,U++[⟨h5.text,IntKind.wrap .i64 h6.num⟩],v1,_, ?_, ?_,j8, ?_, ?_, ?_,H.off k0 _, ?_,bE _ _ _, ?_⟩;omega;omega;omega;(simp only[aH,aQ,aV];omega);exact p;(rw[cO];exact g9.off b1 _);(simp only[*,aE,strs,XW,Iq,aT,RR,seval];done))
  have p:=rM d8 p;rw[aL (dQ.1 d8)]at d;refine aK ?_;simp only[RR];refine aI (aA fun K I=>?_);simp only[u,RR,seval];refine gO (jZ F hT m V hm E0 (by decide)) d trivial fun M9 p7 g5=>?_;have i:=g5 y _ a4 f;have Q:=(i.trans f.symm).trans Q;have t:=g5 z _ a5 g;have f:=i;have g:=t;have H:=eB.kp H d (by decide) g5;have D:=eB.kp D d (by decide) g5;have d:=p7;simp only[RR,seval];refine I _ _ (aU ?_ ?_)<;>intro d9
  ·have p:=rL d9 p
   rw[bH d9]at d;have w3:=jP d9 (by decide);refine bM fun k9 s0 o j=>?_;have J:=o 0;have L:=o 2;have N:=o 3;have i:=j y;have C:=j F;have t:=j z;simp only[u,A,B,f,d,g,RR,seval]at J L N i C t;have a9:aX [0,2,3] F2 k9:=aX.same o (by repeat (first|exact a9|refine aX.upd rfl ?_));have Q:=(j y).trans Q;have H:=H.same j;have D:=D.same j;have u:=J;have A:=L;have B:=N;have f:=i;have d:=C;have g:=t;refine aA fun K I=>?_;simp only[u,RR,seval];refine dW (oO F hT (m+1) V (by omega) 1 (by decide)) d trivial fun h5 q5 r3 s1 o0 v6 o7 p8 g6=>?_;have p:=dH p o0;have i:=g6 y _ a4 f;have Q:=(i.trans f.symm).trans Q;have t:=g6 z _ a5 g;have f:=i;have g:=t;have H:=eB.kp H d (by decide) g6;have D:=eB.kp D d (by decide) g6;have d:=p8;simp only[RR,seval];refine aM fun b4 e7=>?_;have q9:=cY e7 f;have h1:=q9.symm;have f1:=cY e7 d;have k5:=f1.symm;have r1:=cY e7 g;have k2:=r1.symm;simp only[RR,seval];apply I;have i9:=H.offnone e7;have e8:=D.offnone e7;refine bM fun l0 s2 o j=>?_;have J:=o 0;have L:=o 2;have N:=o 3;have f4:=o 4;have i:=j y;have C:=j F;have t:=j z;have a6:=j b4;simp only[u,A,B,f,d,g,h1,k5,k2,RR,seval]at J L N f4 i C t a6;have a9:aX [0,2,3] F2 l0:=aX.same o (by repeat (first|exact a9|refine aX.upd rfl ?_));have Q:=(j y).trans (by(simp only[h1,aT,seval];exact Q));have H:=((H.off i9 _).off i9 _).same j;have D:=((D.off e8 _).off e8 _).same j;have u:=J;have A:=L;have B:=N;have f:=i;have d:=C;have g:=t;refine aA fun K I=>?_;simp only[u,RR,seval];refine dW (fM F hT q5 r3 o7 [91] (by decide)) d trivial fun u3 q6 r4 s3 o1 v7 o8 p9 e0=>?_;have p:=dH p o1;have i:=e0 y _ a4 f;have Q:=(i.trans f.symm).trans Q;have t:=e0 z _ a5 g;have b7:=e0 b4 _ f1 a6;have f:=i;have g:=t;have a6:=b7;have H:=eB.kp H d (by decide) e0;have D:=eB.kp D d (by decide) e0;have d:=p9;simp only[RR,seval];refine I _ _ (aA fun K I=>?_);simp only[u,RR,seval];refine dW (oO F hT q6 r4 o8 2 (by decide)) d trivial fun h6 j2 k7 s4 j6 v8 o9 q0 e1=>?_;have p:=dH p j6;have i:=e1 y _ a4 f;have Q:=(i.trans f.symm).trans Q;have t:=e1 z _ a5 g;have b7:=e1 b4 _ f1 a6;have f:=i;have g:=t;have a6:=b7;have H:=eB.kp H d (by decide) e1;have D:=eB.kp D d (by decide) e1;have d:=q0;simp only[RR,seval];apply I;obtain⟨G,hG⟩: ∃G:Int→PR Pg,G=fun x=>(fE T [93] j2).bind fun _ m=>(fE T [59] m).bind fun _ m=>(Eu T vs (U++[⟨h5.text,x⟩]) m).bind (Pj T):=⟨_,rfl⟩;have p:kW k7 j2 (G h6.num)=c1:=by rw[hG];exact p
   have p:=JW (G:=G) hT j6 p;rw[hG]at p;dsimp only at p;refine aA fun K I=>?_;simp only[u,RR,seval];refine dW (fM F hT j2 k7 o9 [93] (by decide)) d trivial fun u4 q7 r5 s5 o2 v9 p0 q1 e2=>?_;have p:=dH p o2;have i:=e2 y _ a4 f;have Q:=(i.trans f.symm).trans Q;have t:=e2 z _ a5 g;have b7:=e2 b4 _ f1 a6;have f:=i;have g:=t;have a6:=b7;have H:=eB.kp H d (by decide) e2;have D:=eB.kp D d (by decide) e2;have d:=q1;simp only[RR,seval];refine I _ _ (aA fun K I=>?_);simp only[u,RR,seval];refine dW (fM F hT q7 r5 p0 [59] (by decide)) d trivial fun u5 j3 k8 s6 o3 w0 j8 q2 e3=>?_;have p:=dH p o3;have i:=e3 y _ a4 f;have Q:=(i.trans f.symm).trans Q;have t:=e3 z _ a5 g;have b7:=e3 b4 _ f1 a6;have f:=i;have g:=t;have a6:=b7;have H:=eB.kp H d (by decide) e3;have D:=eB.kp D d (by decide) e3;have d:=q2;simp only[RR,seval];apply I;obtain⟨mz,p3⟩: ∃mz:Nat,mz=j3:=⟨_,rfl⟩;refine aA fun K I=>?_;simp only[f4,a6,RR,seval];refine I _ _ (bM fun l1 s7 o j=>?_);have J:=o 0;have L:=o 2;have N:=o 3;have g4:=o 4;have f5:=o 5;have i:=j y;have C:=j F;have t:=j z;have a6:=j b4;simp only[u,A,B,f4,f,d,g,h1,k5,k2,RR,seval]at J L N g4 f5 i C t a6;have a9:aX [0,2,3] F2 l1:=aX.same o (by repeat (first|exact a9|refine aX.upd rfl ?_));have Q:=(j y).trans (by(simp only[h1,aT,seval];exact Q));have H:=(H.off i9 _).same j;have D:=(D.off e8 _).same j;have k0:=Z;have Z:=g8;have u:=J;have A:=L;have B:=N;have f4:=g4;have f:=i;have d:=C;have g:=t;refine aA fun K I=>?_;simp only[*,RR,seval];refine eG ?_;simp only[RR,seval];refine iW D (by simp only[aE,aQ,aV];omega) (fun b e=>by trivial) fun w8 s8 g9 a2 c2=>?_;have b1:=c2 z Z (by rw[g];exact bY _);have w4:=c2 b4 e8 (by rw[a6];exact bY _);simp only[B,RR,seval];have i:=a2 y _ f (by exact(D).nb' f (by decide));have Q:=(i.trans f.symm).trans Q;have f:=i;have C:=a2 F _ d (by exact(D).nb' d (by decide));have d:=C;have t:=a2 z _ g (by exact(D).nb' g (by decide));have g:=t;have b7:=a2 b4 _ a6 (e8 _ _);have a6:=b7;have c5:=g9.cells;have d0:=g9.one1;simp only[c5,d0,cA,List.drop,g,RR,seval];apply I;have H:=H.app2 D (by decide) a2;refine cF ?_;simp only[RR,seval];refine j5 (T.length-mz) _ _ (by omega) ⟨(by(simp only[a3,aT,seval];exact Q)), ?_⟩ (by repeat (first|exact a9|refine aX.upd rfl ?_))
   first
    |(refine⟨j1,k6,vs++j4,U,_,v2, ?_, ?_,j7, ?_, ?_, ?_, ?_,D,g,d⟩;omega;omega;(simp only[aH];omega);omega;exact p;(rw[cO];exact c3))
    |(refine⟨j3,k8,vs,U++[⟨h5.text,IntKind.wrap .i64 h6.num⟩],v1,_, ?_, ?_,j8, ?_, ?_, ?_,H.off k0 _, ?_,bE _ _ _, ?_⟩;omega;omega;omega;(simp only[aH,aQ,aV];omega);exact p;(rw[cO];exact g9.off b1 _);(simp only[d,a8,aT,seval];done))
  have p:=rM d9 p;rw[aL (dQ.1 d9)]at d;refine aK ?_;simp only[RR];refine cF ?_;simp only[RR,seval];refine bM fun r6 m4 o j=>?_;have J:=o 0;have L:=o 2;have N:=o 3;have i:=j y;have C:=j F;have t:=j z;simp only[u,A,B,f,d,g,RR,seval]at J L N i C t;have H:=H.same j;have D:=D.same j;have u:=J;have A:=L;have B:=N;have f:=i;have d:=C;have g:=t;rw[T8]at p;have X:m4 z=some (.rows 3 [[]++v1::[v2, .nsl]]):=g;refine iF H X (fun x l=>by cases l) (fun x l=>by simp only[bP,bO,dF]at l;rcases l with rfl|rfl;exact U4 H D (by decide);exact bS rfl) Z fun m0 d7 P Y R=>?_;have u:=(P 0 (by rw[u];exact bS rfl)).trans u;have A:=(P 2 (by rw[A];exact bS rfl)).trans A;have B:=(P 3 (by rw[B];exact bS rfl)).trans B;have d:=R F _ _ a8 (H.offsz d (by decide)) (fun r O x l=>by simp only[bD]at O;subst O;simp only[bP,bO,dF]at l;rcases l with rfl|rfl|rfl<;>exact bS rfl) d;have f:=R y _ _ a3 (H.offsz f (by decide)) (fun r O x l=>by simp only[bD]at O;subst O;simp only[bP,bO,dF]at l;rcases l with rfl|rfl|rfl<;>exact bS rfl) f;have D:=D.thru H (by decide) g (by decide) (Yu _) R;have g:d7 z=some (.rows 3 [[.isl 1 (vs.map bQ),v2, .nsl]]):=Y;clear Y X P R;have X:d7 z=some (.rows 3 [[.isl 1 (vs.map bQ)]++v2::[.nsl]]):=g;refine iF D X (fun x l=>by simp only[bP,bO,dF]at l;rcases l with rfl;exact bS rfl) (fun x l=>by simp only[bP,bO,dF]at l;rcases l with rfl;exact bS rfl) g8 fun m1 h2 P Y R=>?_;have u:=(P 0 (by rw[u];exact bS rfl)).trans u;have A:=(P 2 (by rw[A];exact bS rfl)).trans A;have B:=(P 3 (by rw[B];exact bS rfl)).trans B;have d:=R F _ _ a8 (D.offsz d (by decide)) (fun r O x l=>by simp only[bD]at O;subst O;simp only[bP,bO,dF]at l;rcases l with rfl|rfl|rfl<;>exact bS rfl) d;have f:=R y _ _ a3 (D.offsz f (by decide)) (fun r O x l=>by simp only[bD]at O;subst O;simp only[bP,bO,dF]at l;rcases l with rfl|rfl|rfl<;>exact bS rfl) f;have g:h2 z=some (.rows 3 [[.isl 1 (vs.map bQ), .isl 2 (U.map Ar.row), .nsl]]):=Y;clear Y X P R;have Z:Al.off AV.nsl z:=fun _ _ h=>by cases h
  refine aA fun K I=>?_;simp only[u,RR,seval];refine dW (fM F hT m V hm zR (by decide)) d trivial fun n5 e9 f7 s9 i1 o4 i5 i6 e4=>?_;have p:=dH p i1;have i:=e4 y _ a4 f;have t:=e4 z _ a5 g;have f:=i;have g:=t;have d:=i6;simp only[RR,seval];refine I _ _ (bM fun r7 m5 o j=>?_);have J:=o 0;have L:=o 2;have N:=o 3;have i:=j y;have C:=j F;have t:=j z;simp only[u,A,B,f,d,g,RR,seval]at J L N i C t;have u:=J;have A:=L;have B:=N;have f:=i;have d:=C;have g:=t;refine aP (iV [0,2,3] (Ns T e9 f7) (fun k fr M=>M y=m5 y∧(∃(m:Nat) (V:Bool) (W:List Fu) (v:AV),k=Ns T m V∧n≤m∧m≤T.length∧W.length≤m+1∧(V=false→W.length≤m)∧kW V m (Ek T vs U W m)=c1∧eB 5 v (W.map Fu.row) M∧M z=some (.rows 3 [[.isl 1 (vs.map bQ), .isl 2 (U.map Ar.row),v]])∧M F=some (.rows 3 [[.isl 4 (T.map gA.row), .int .i64 (m:Nat), .bool V]]))) ⟨rfl,e9,f7,[], .nsl,rfl,by omega,i5,cJ _,fun _=>cJ _,p, .inl ⟨rfl,rfl⟩,g,d⟩ ?_);rintro k d5 t0 ⟨i,m,V,W,v3,rfl,j9,hm,h8,h9,p,E,g,d⟩ a7 K2 h7;have u:=(a7 0 rfl).trans u;have A:=(a7 2 rfl).trans A;have B:=(a7 3 rfl).trans B;have f:=i.trans f;have a0:=aX.refl [0,2,3] d5;have S:=i;clear a7;have Z:=E.offsz g (by decide);have q3:=E.one1;have n7:=E.cells;refine aP (aI (aA fun K I=>?_));simp only[u,d,RR,seval];refine I _ _ (aU ?_ ?_)<;>intro c4
  ·have p:kW V m (PR.ok (⟨vs,U,W⟩:Pg) m)=c1:=by rw[c4]at p⊢;exact p
   obtain⟨n2,c9⟩: ∃n2:Nat,n2=m:=⟨_,rfl⟩;rw[←c9]at p d;have c8:n≤n2:=by omega
   have c0:n2≤T.length:=by omega
   refine bM fun l2 m6 o j=>?_;have J:=o 0;have L:=o 2;have N:=o 3;have i:=j y;have C:=j F;have t:=j z;simp only[u,A,B,f,d,g,RR,seval]at J L N i C t;have a0:aX [0,2,3] d5 l2:=aX.same o (by repeat (first|exact a0|refine aX.upd rfl ?_));have S:=(j y).trans S;have E:=E.same j;have u:=J;have A:=L;have B:=N;have f:=i;have d:=C;have g:=t;have X:m6 z=some (.rows 3 [[.isl 1 (vs.map bQ), .isl 2 (U.map Ar.row)]++v3::[]]):=g;refine iF E X (fun x l=>by simp only[bP,bO,dF]at l;rcases l with rfl|rfl<;>exact bS rfl) (fun x l=>by cases l) Z fun m2 h3 P Y R=>?_;have A:=(P 2 (by rw[A];exact bS rfl)).trans A;have B:=(P 3 (by rw[B];exact bS rfl)).trans B;have d:=R F _ _ a8 (E.offsz d (by decide)) (fun r O x l=>by simp only[bD]at O;subst O;simp only[bP,bO,dF]at l;rcases l with rfl|rfl|rfl<;>exact bS rfl) d;have f:=R y _ _ a3 (E.offsz f (by decide)) (fun r O x l=>by simp only[bD]at O;subst O;simp only[bP,bO,dF]at l;rcases l with rfl|rfl|rfl<;>exact bS rfl) f;have g:h3 z=some (.rows 3 [[.isl 1 (vs.map bQ), .isl 2 (U.map Ar.row), .isl 5 (W.map Fu.row)]]):=Y;clear Y X P R;refine aA fun K I=>?_;simp only[*,RR,seval];apply I;refine aN ?_;simp only[aW,aJ,bN,A,RR,seval];refine iN (by(simp only[d,d4,aT,seval];done)) p ?_ c8 c0;exact hP.refl _
  unfold Ek at p;have h8:=h9 c4;refine aK ?_;simp only[RR];refine bM fun l3 t1 o j=>?_;have J:=o 0;have L:=o 2;have N:=o 3;have i:=j y;have C:=j F;have t:=j z;simp only[u,A,B,f,d,g,RR,seval]at J L N i C t;have a0:aX [0,2,3] d5 l3:=aX.same o (by repeat (first|exact a0|refine aX.upd rfl ?_));have S:=(j y).trans S;have E:=E.same j;have u:=J;have A:=L;have B:=N;have f:=i;have d:=C;have g:=t;refine aC fun K I=>?_;refine bB (fun x=>x≠z∧x≠y) [(0,3),(1,0),(2,3),(3,1),(4,2),(5,1),(6,3)] [(7,1)] eF (by kernel_rfl) rfl rfl ?_;simp only[*,dR,fX,RR,seval];refine dW (Yj F hT m V hm) d (by trivial) fun b6 a1 b0 t2 i2 o5 e5 i7 c6=>?_;have p:=dH p i2;have i:=c6 y _ a4 f;have S:=(i.trans f.symm).trans S;have t:=c6 z _ a5 g;have f:=i;have g:=t;have E:=eB.kp E d (by decide) c6;have d:=i7;simp only[XW,RR,seval];refine iW E (by simp only[aE,aQ,aV];omega) (fun b e=>by(repeat' apply And.intro)<;>(intro c;subst c;first|exact Z _ _ e|exact E.nb' f (by decide) e)) fun f6 t3 d1 a2 c2=>?_;have b1:=c2 z Z (by rw[g];exact bY _);simp only[B,RR,seval];have i:=a2 y _ f (by exact(E).nb' f (by decide));have S:=(i.trans f.symm).trans S;have f:=i;have C:=a2 F _ d (by exact(E).nb' d (by decide));have d:=C;have t:=a2 z _ g (by exact(E).nb' g (by decide));have g:=t;have c5:=d1.cells;have d0:=d1.one1;simp only[c5,d0,cA,List.drop,g,RR,seval];refine I _ _ (aI (bM fun l4 m7 o j=>?_));have J:=o 0;have L:=o 2;have N:=o 3;have i:=j y;have C:=j F;have g:=j z;simp only[u,A,B,f,d,a8,a3,RR,seval]at J L N i C g;have a0:aX [0,2,3] d5 l4:=aX.same o (by repeat (first|exact a0|refine aX.upd rfl ?_));have S:=(j y).trans (by(simp only[a3,aT,seval];exact S));have E:eB 5 f6 ((W++[b6]).map Fu.row) m7:=by rw[cO];exact(d1.off b1 _).same j
  have Z:=b1;have u:=J;have A:=L;have B:=N;have f:=i;have d:=C;refine aC fun K I=>?_;refine bB (fun x=>x≠y∧x≠F∧x≠z) [(0,3),(1,3),(2,3),(3,1),(4,3),(5,3),(6,3),(7,3),(8,1),(9,3),(10,3),(11,3),(12,1),(13,3),(14,3),(15,3)] [] eF (by kernel_rfl) rfl rfl ?_;simp only[dR,u,d,RR,seval]
  repeat' ((refine bZ (fun h=>?_) (fun h=>?_))<;>simp only[h,u,d,aE,RR,seval])
  all_goals
   refine I _ _ (aU ?_ ?_)<;>intro b8
   ·try (cases b8;done)
    all_goals
     have hq:b0=true∨ ¬a1<T.length:=by first|exact .inl h|exact .inr (by have:=aB b8;omega)
     have p:kW b0 a1 (PR.ok (⟨vs,U,W++[b6]⟩:Pg) a1)=c1:=by
      rcases hq with e|e
      ·rw[e]at p⊢;exact p
      rw[Ji,aL e,PR.bind_ok]at p;exact p
     obtain⟨n2,c9⟩: ∃n2:Nat,n2=a1:=⟨_,rfl⟩;rw[←c9]at p d;have c8:n≤n2:=by omega
     have c0:n2≤T.length:=by omega
     refine bM fun l5 m8 o j=>?_;have J:=o 0;have L:=o 2;have N:=o 3;have i:=j y;have C:=j F;have t:=j z;simp only[u,A,B,f,d,g,RR,seval]at J L N i C t;have a0:aX [0,2,3] d5 l5:=aX.same o (by repeat (first|exact a0|refine aX.upd rfl ?_));have S:=(j y).trans S;have E:=E.same j;have u:=J;have A:=L;have B:=N;have f:=i;have d:=C;have g:=t;have X:m8 z=some (.rows 3 [[.isl 1 (vs.map bQ), .isl 2 (U.map Ar.row)]++f6::[]]):=g;refine iF E X (fun x l=>by simp only[bP,bO,dF]at l;rcases l with rfl|rfl<;>exact bS rfl) (fun x l=>by cases l) Z fun m3 h4 P Y R=>?_;have A:=(P 2 (by rw[A];exact bS rfl)).trans A;have B:=(P 3 (by rw[B];exact bS rfl)).trans B;have d:=R F _ _ a8 (E.offsz d (by decide)) (fun r O x l=>by simp only[bD]at O;subst O;simp only[bP,bO,dF]at l;rcases l with rfl|rfl|rfl<;>exact bS rfl) d;have f:=R y _ _ a3 (E.offsz f (by decide)) (fun r O x l=>by simp only[bD]at O;subst O;simp only[bP,bO,dF]at l;rcases l with rfl|rfl|rfl<;>exact bS rfl) f;have g:h4 z=some (.rows 3 [[.isl 1 (vs.map bQ), .isl 2 (U.map Ar.row), .isl 5 ((W++[b6]).map Fu.row)]]):=Y;clear Y X P R;refine aA fun K I=>?_;simp only[*,RR,seval];apply I;refine aN ?_;simp only[aW,aJ,bN,A,RR,seval];refine iN (by(simp only[d,d4,aT,seval];done)) p ?_ c8 c0;exact hP.refl _
   try (cases b8;done)
   all_goals
    have b5:b0=false:=by simpa using h
    have i4:a1<T.length:=by have:=aD b8;omega
    rw[KH T vs U _ a1 i4]at p;refine aK ?_;simp only[RR];refine aG ?_;simp only[u,RR,seval];refine dW (fM F hT a1 b0 e5 zR (by decide)) d trivial fun n6 d2 d3 t4 b9 i3 e6 i8 c7=>?_;have p:=dH p b9;have i:=c7 y _ a4 f;have S:=(i.trans f.symm).trans S;have t:=c7 z _ a5 g;have f:=i;have g:=t;have E:=eB.kp E d (by decide) c7;have d:=i8;simp only[RR,seval];have p1:=Ti b5 e5 e6 i3 b9 fun a m' h=>by have:=fG h (by decide);omega
    have p2:Ns T a1 b0≤Ns T m V:=by rw[b5,c4];unfold Ns;simp;omega
    have i0:d3=false→a1<d2:=fun e=>by
     rw[e,b5,nF,nF]at b9;have:=fG b9.symm (by decide);omega
    refine h7 (Ns T d2 d3) _ _ (by omega) ⟨S,d2,d3,W++[b6],_,rfl,by omega,e6,by simp only[aH,aQ,aV];omega,fun e=>by have:=i0 e;simp only[aH,aQ,aV];omega,p,E,g,d⟩ (by repeat (first|exact a0|refine aX.upd rfl ?_))
 have j0:=hc;have b5:V=true:=by simpa using j0
 have p:kW V m (Pj T (vs,U) m)=c1:=by subst b5;exact p
 clear b5 j0;refine cF ?_;simp only[RR,seval];refine bM fun r8 m9 o j=>?_;have J:=o 0;have L:=o 2;have N:=o 3;have i:=j y;have C:=j F;have t:=j z;simp only[u,A,B,f,d,g,RR,seval]at J L N i C t;have H:=H.same j;have D:=D.same j;have u:=J;have A:=L;have B:=N;have f:=i;have d:=C;have g:=t;rw[T8]at p;have X:m9 z=some (.rows 3 [[]++v1::[v2, .nsl]]):=g;refine iF H X (fun x l=>by cases l) (fun x l=>by simp only[bP,bO,dF]at l;rcases l with rfl|rfl;exact U4 H D (by decide);exact bS rfl) Z fun m0 d7 P Y R=>?_;have u:=(P 0 (by rw[u];exact bS rfl)).trans u;have A:=(P 2 (by rw[A];exact bS rfl)).trans A;have B:=(P 3 (by rw[B];exact bS rfl)).trans B;have d:=R F _ _ a8 (H.offsz d (by decide)) (fun r O x l=>by simp only[bD]at O;subst O;simp only[bP,bO,dF]at l;rcases l with rfl|rfl|rfl<;>exact bS rfl) d;have f:=R y _ _ a3 (H.offsz f (by decide)) (fun r O x l=>by simp only[bD]at O;subst O;simp only[bP,bO,dF]at l;rcases l with rfl|rfl|rfl<;>exact bS rfl) f;have D:=D.thru H (by decide) g (by decide) (Yu _) R;have g:d7 z=some (.rows 3 [[.isl 1 (vs.map bQ),v2, .nsl]]):=Y;clear Y X P R;have X:d7 z=some (.rows 3 [[.isl 1 (vs.map bQ)]++v2::[.nsl]]):=g;refine iF D X (fun x l=>by simp only[bP,bO,dF]at l;rcases l with rfl;exact bS rfl) (fun x l=>by simp only[bP,bO,dF]at l;rcases l with rfl;exact bS rfl) g8 fun m1 h2 P Y R=>?_;have u:=(P 0 (by rw[u];exact bS rfl)).trans u;have A:=(P 2 (by rw[A];exact bS rfl)).trans A;have B:=(P 3 (by rw[B];exact bS rfl)).trans B;have d:=R F _ _ a8 (D.offsz d (by decide)) (fun r O x l=>by simp only[bD]at O;subst O;simp only[bP,bO,dF]at l;rcases l with rfl|rfl|rfl<;>exact bS rfl) d;have f:=R y _ _ a3 (D.offsz f (by decide)) (fun r O x l=>by simp only[bD]at O;subst O;simp only[bP,bO,dF]at l;rcases l with rfl|rfl|rfl<;>exact bS rfl) f;have g:h2 z=some (.rows 3 [[.isl 1 (vs.map bQ), .isl 2 (U.map Ar.row), .nsl]]):=Y;clear Y X P R;have Z:Al.off AV.nsl z:=fun _ _ h=>by cases h
 refine aA fun K I=>?_;simp only[u,RR,seval];refine dW (fM F hT m V hm zR (by decide)) d trivial fun n5 e9 f7 t5 i1 o4 i5 i6 e4=>?_;have p:=dH p i1;have i:=e4 y _ a4 f;have t:=e4 z _ a5 g;have f:=i;have g:=t;have d:=i6;simp only[RR,seval];refine I _ _ (bM fun r9 n0 o j=>?_);have J:=o 0;have L:=o 2;have N:=o 3;have i:=j y;have C:=j F;have t:=j z;simp only[u,A,B,f,d,g,RR,seval]at J L N i C t;have u:=J;have A:=L;have B:=N;have f:=i;have d:=C;have g:=t;refine aP (iV [0,2,3] (Ns T e9 f7) (fun k fr M=>M y=n0 y∧(∃(m:Nat) (V:Bool) (W:List Fu) (v:AV),k=Ns T m V∧n≤m∧m≤T.length∧W.length≤m+1∧(V=false→W.length≤m)∧kW V m (Ek T vs U W m)=c1∧eB 5 v (W.map Fu.row) M∧M z=some (.rows 3 [[.isl 1 (vs.map bQ), .isl 2 (U.map Ar.row),v]])∧M F=some (.rows 3 [[.isl 4 (T.map gA.row), .int .i64 (m:Nat), .bool V]]))) ⟨rfl,e9,f7,[], .nsl,rfl,by omega,i5,cJ _,fun _=>cJ _,p, .inl ⟨rfl,rfl⟩,g,d⟩ ?_);rintro k d6 t6 ⟨i,m,V,W,v3,rfl,j9,hm,h8,h9,p,E,g,d⟩ a7 K2 h7;have u:=(a7 0 rfl).trans u;have A:=(a7 2 rfl).trans A;have B:=(a7 3 rfl).trans B;have f:=i.trans f;have a0:=aX.refl [0,2,3] d6;have S:=i;clear a7;have Z:=E.offsz g (by decide);have q3:=E.one1;have n7:=E.cells;refine aP (aI (aA fun K I=>?_));simp only[u,d,RR,seval];refine I _ _ (aU ?_ ?_)<;>intro c4
 ·have p:kW V m (PR.ok (⟨vs,U,W⟩:Pg) m)=c1:=by rw[c4]at p⊢;exact p
  obtain⟨n2,c9⟩: ∃n2:Nat,n2=m:=⟨_,rfl⟩;rw[←c9]at p d;have c8:n≤n2:=by omega
  have c0:n2≤T.length:=by omega
  refine bM fun l6 n1 o j=>?_;have J:=o 0;have L:=o 2;have N:=o 3;have i:=j y;have C:=j F;have t:=j z;simp only[u,A,B,f,d,g,RR,seval]at J L N i C t;have a0:aX [0,2,3] d6 l6:=aX.same o (by repeat (first|exact a0|refine aX.upd rfl ?_));have S:=(j y).trans S;have E:=E.same j;have u:=J;have A:=L;have B:=N;have f:=i;have d:=C;have g:=t;have X:n1 z=some (.rows 3 [[.isl 1 (vs.map bQ), .isl 2 (U.map Ar.row)]++v3::[]]):=g;refine iF E X (fun x l=>by simp only[bP,bO,dF]at l;rcases l with rfl|rfl<;>exact bS rfl) (fun x l=>by cases l) Z fun m2 h3 P Y R=>?_;have A:=(P 2 (by rw[A];exact bS rfl)).trans A;have B:=(P 3 (by rw[B];exact bS rfl)).trans B;have d:=R F _ _ a8 (E.offsz d (by decide)) (fun r O x l=>by simp only[bD]at O;subst O;simp only[bP,bO,dF]at l;rcases l with rfl|rfl|rfl<;>exact bS rfl) d;have f:=R y _ _ a3 (E.offsz f (by decide)) (fun r O x l=>by simp only[bD]at O;subst O;simp only[bP,bO,dF]at l;rcases l with rfl|rfl|rfl<;>exact bS rfl) f;have g:h3 z=some (.rows 3 [[.isl 1 (vs.map bQ), .isl 2 (U.map Ar.row), .isl 5 (W.map Fu.row)]]):=Y;clear Y X P R;refine aA fun K I=>?_;simp only[*,RR,seval];apply I;refine aN ?_;simp only[aW,aJ,bN,A,RR,seval];refine iN (by(simp only[d,d4,aT,seval];done)) p ?_ c8 c0;exact hP.refl _
 unfold Ek at p;have h8:=h9 c4;refine aK ?_;simp only[RR];refine bM fun l7 t7 o j=>?_;have J:=o 0;have L:=o 2;have N:=o 3;have i:=j y;have C:=j F;have t:=j z;simp only[u,A,B,f,d,g,RR,seval]at J L N i C t;have a0:aX [0,2,3] d6 l7:=aX.same o (by repeat (first|exact a0|refine aX.upd rfl ?_));have S:=(j y).trans S;have E:=E.same j;have u:=J;have A:=L;have B:=N;have f:=i;have d:=C;have g:=t;refine aC fun K I=>?_;refine bB (fun x=>x≠z∧x≠y) [(0,3),(1,0),(2,3),(3,1),(4,2),(5,1),(6,3)] [(7,1)] eF (by kernel_rfl) rfl rfl ?_;simp only[*,dR,fX,RR,seval];refine dW (Yj F hT m V hm) d (by trivial) fun b6 a1 b0 t8 i2 o5 e5 i7 c6=>?_;have p:=dH p i2;have i:=c6 y _ a4 f;have S:=(i.trans f.symm).trans S;have t:=c6 z _ a5 g;have f:=i;have g:=t;have E:=eB.kp E d (by decide) c6;have d:=i7;simp only[XW,RR,seval];refine iW E (by simp only[aE,aQ,aV];omega) (fun b e=>by(repeat' apply And.intro)<;>(intro c;subst c;first|exact Z _ _ e|exact E.nb' f (by decide) e)) fun f6 t9 d1 a2 c2=>?_;have b1:=c2 z Z (by rw[g];exact bY _);simp only[B,RR,seval];have i:=a2 y _ f (by exact(E).nb' f (by decide));have S:=(i.trans f.symm).trans S;have f:=i;have C:=a2 F _ d (by exact(E).nb' d (by decide));have d:=C;have t:=a2 z _ g (by exact(E).nb' g (by decide));have g:=t;have c5:=d1.cells;have d0:=d1.one1;simp only[c5,d0,cA,List.drop,g,RR,seval];refine I _ _ (aI (bM fun l8 n3 o j=>?_));have J:=o 0;have L:=o 2;have N:=o 3;have i:=j y;have C:=j F;have g:=j z;simp only[u,A,B,f,d,a8,a3,RR,seval]at J L N i C g;have a0:aX [0,2,3] d6 l8:=aX.same o (by repeat (first|exact a0|refine aX.upd rfl ?_));have S:=(j y).trans (by(simp only[a3,aT,seval];exact S));have E:eB 5 f6 ((W++[b6]).map Fu.row) n3:=by rw[cO];exact(d1.off b1 _).same j
 have Z:=b1;have u:=J;have A:=L;have B:=N;have f:=i;have d:=C;refine aC fun K I=>?_;refine bB (fun x=>x≠y∧x≠F∧x≠z) [(0,3),(1,3),(2,3),(3,1),(4,3),(5,3),(6,3),(7,3),(8,1),(9,3),(10,3),(11,3),(12,1),(13,3),(14,3),(15,3)] [] eF (by kernel_rfl) rfl rfl ?_;simp only[dR,u,d,RR,seval]
 repeat' ((refine bZ (fun h=>?_) (fun h=>?_))<;>simp only[h,u,d,aE,RR,seval])
 all_goals
  refine I _ _ (aU ?_ ?_)<;>intro b8
  ·try (cases b8;done)
   all_goals
    have hq:b0=true∨ ¬a1<T.length:=by first|exact .inl h|exact .inr (by have:=aB b8;omega)
    have p:kW b0 a1 (PR.ok (⟨vs,U,W++[b6]⟩:Pg) a1)=c1:=by
     rcases hq with e|e
     ·rw[e]at p⊢;exact p
     rw[Ji,aL e,PR.bind_ok]at p;exact p
    obtain⟨n2,c9⟩: ∃n2:Nat,n2=a1:=⟨_,rfl⟩;rw[←c9]at p d;have c8:n≤n2:=by omega
    have c0:n2≤T.length:=by omega
    refine bM fun l9 n4 o j=>?_;have J:=o 0;have L:=o 2;have N:=o 3;have i:=j y;have C:=j F;have t:=j z;simp only[u,A,B,f,d,g,RR,seval]at J L N i C t;have a0:aX [0,2,3] d6 l9:=aX.same o (by repeat (first|exact a0|refine aX.upd rfl ?_));have S:=(j y).trans S;have E:=E.same j;have u:=J;have A:=L;have B:=N;have f:=i;have d:=C;have g:=t;have X:n4 z=some (.rows 3 [[.isl 1 (vs.map bQ), .isl 2 (U.map Ar.row)]++f6::[]]):=g;refine iF E X (fun x l=>by simp only[bP,bO,dF]at l;rcases l with rfl|rfl<;>exact bS rfl) (fun x l=>by cases l) Z fun m3 h4 P Y R=>?_;have A:=(P 2 (by rw[A];exact bS rfl)).trans A;have B:=(P 3 (by rw[B];exact bS rfl)).trans B;have d:=R F _ _ a8 (E.offsz d (by decide)) (fun r O x l=>by simp only[bD]at O;subst O;simp only[bP,bO,dF]at l;rcases l with rfl|rfl|rfl<;>exact bS rfl) d;have f:=R y _ _ a3 (E.offsz f (by decide)) (fun r O x l=>by simp only[bD]at O;subst O;simp only[bP,bO,dF]at l;rcases l with rfl|rfl|rfl<;>exact bS rfl) f;have g:h4 z=some (.rows 3 [[.isl 1 (vs.map bQ), .isl 2 (U.map Ar.row), .isl 5 ((W++[b6]).map Fu.row)]]):=Y;clear Y X P R;refine aA fun K I=>?_;simp only[*,RR,seval];apply I;refine aN ?_;simp only[aW,aJ,bN,A,RR,seval];refine iN (by(simp only[d,d4,aT,seval];done)) p ?_ c8 c0;exact hP.refl _
  try (cases b8;done)
  all_goals
   have b5:b0=false:=by simpa using h
   have i4:a1<T.length:=by have:=aD b8;omega
   rw[KH T vs U _ a1 i4]at p;refine aK ?_;simp only[RR];refine aG ?_;simp only[u,RR,seval];refine dW (fM F hT a1 b0 e5 zR (by decide)) d trivial fun n6 d2 d3 u1 b9 i3 e6 i8 c7=>?_;have p:=dH p b9;have i:=c7 y _ a4 f;have S:=(i.trans f.symm).trans S;have t:=c7 z _ a5 g;have f:=i;have g:=t;have E:=eB.kp E d (by decide) c7;have d:=i8;simp only[RR,seval];have p1:=Ti b5 e5 e6 i3 b9 fun a m' h=>by have:=fG h (by decide);omega
   have p2:Ns T a1 b0≤Ns T m V:=by rw[b5,c4];unfold Ns;simp;omega
   have i0:d3=false→a1<d2:=fun e=>by
    rw[e,b5,nF,nF]at b9;have:=fG b9.symm (by decide);omega
   refine h7 (Ns T d2 d3) _ _ (by omega) ⟨S,d2,d3,W++[b6],_,rfl,by omega,e6,by simp only[aH,aQ,aV];omega,fun e=>by have:=i0 e;simp only[aH,aQ,aV];omega,p,E,g,d⟩ (by repeat (first|exact a0|refine aX.upd rfl ?_))
theorem J5 (c:Nat) (T:List gA) (n:Nat) (w:Bool) (j:n≤T.length) (s:dC):Ob 66 [.str s] c T n w (.int .i64 (SC T s.length n)) n w:=by
 unfold Ob;have b:=mM c T n w;by_cases f:n<T.length
 ·have d:=aF f
  generalize T[n]=t at d;have g:=OS d;have hd:decide ((n:Int)<(T.length:Int))=true:=cD (by omega);have e:SC T s.length n=(t.pos:Int):=by simp [SC,d]
  rw[e];refine bX 28 [.tmp 4] func66 ?_;refine aA fun K a=>?_;simp only[RR,seval];refine a _ _ (aI (aC fun K a=>?_));refine bB (fun x=>x≠c) [(0,3),(1,3),(2,3),(3,1),(4,3),(5,3),(6,3),(7,1),(8,3),(9,3)] [] eF (by kernel_rfl) rfl rfl ?_;simp only[dR,b,aE,hd,RR,seval];refine a _ _ (aU ?_ ?_)<;>intro i
  ·refine aC fun K a=>?_
   refine bB (fun x=>x≠c) [(0,3),(1,3),(2,3),(3,1),(4,3),(5,3),(6,3),(7,1),(8,3),(9,3),(10,1),(11,3)] [] eF (by kernel_rfl) rfl rfl ?_;simp only[dR,b,g,RR,seval];apply a;refine aN ?_;simp only[aW,aJ,bN,RR,seval];refine oH b ?_;rfl
  refine aK ?_;try simp only[RR]
  refine aA fun K a=>?_;simp only[RR,seval];apply a;refine aN ?_;simp only[aW,aJ,bN,RR,seval];refine oH b ?_;simp_all
 have hd:decide ((n:Int)<(T.length:Int))=false:=bA (by omega);have e:SC T s.length n=(s.length:Int):=by simp [SC,dS (Nat.le_of_not_lt f)]
 rw[e];refine bX 28 [.tmp 4] func66 ?_;refine aA fun K a=>?_;simp only[RR,seval];refine a _ _ (aI (aC fun K a=>?_));refine bB (fun x=>x≠c) [(0,3),(1,3),(2,3),(3,1),(4,3),(5,3),(6,3),(7,1),(8,3),(9,3)] [] eF (by kernel_rfl) rfl rfl ?_;simp only[dR,b,aE,hd,RR,seval];refine a _ _ (bL ?_);refine aK ?_;simp only[RR];refine aA fun K a=>?_;simp only[RR,seval];apply a;refine aN ?_;simp only[aW,aJ,bN,RR,seval];refine oH b ?_;rfl
theorem Pe (s:dC) (L:s.length≤1000000):eN dV 38 [.str s] (G9 (G2 s)):=by
 generalize b:G2 s=Z;unfold G2 at b;have y:Al.hP (.agg [.nsl, .nsl, .nsl]) TJ.av:=hP.agg NT
 cases hl:Di s with
 |error x=>
  obtain⟨i,e⟩:=x;rw[hl]at b;simp only at b;subst b;have u:=IK L hl;have P:=JO hl;have hd:decide (e=0)=false:=bA P;refine bX 48 [.cell 2 26, .tmp 3, .tmp 4] func38 ?_;refine aA fun K a=>?_;simp only[RR,seval];refine aM fun l U=>?_;simp only[RR,seval];refine a _ _ (aA fun K a=>?_);simp only[RR,seval];refine aO (u) ?_;simp only[RR,seval];refine a _ _ (aI (aA fun K a=>?_));simp only[hd,RR,seval];refine a _ _ (cR (aA fun K a=>?_));simp only[RR,seval];apply a;refine aN ?_;simp only[aW,aJ,bN,RR,seval];refine⟨G9 _,qZ,(lN.sub ?_).trans (lN.drop (tI _)),rfl,rfl⟩;exact hP.tup (fF.cons y (fF.refl _))
 |ok T=>
  rw[hl]at b;simp only at b;have u:=NK L hl;have E:=OF hl;refine bX 48 [.cell 2 26, .tmp 3, .tmp 4] func38 ?_;refine aA fun K a=>?_;simp only[RR,seval];refine aM fun l U=>?_;simp only[RR,seval];refine a _ _ (aA fun K a=>?_);simp only[RR,seval];refine aO (u) ?_;simp only[RR,seval];refine a _ _ (aI (aA fun K a=>?_));simp only[RR,seval];refine a _ _ (bL ?_);refine aK ?_;simp only[RR];refine aA fun K a=>?_;simp only[RR,seval];refine aM fun t H=>?_;have X:t≠l:=fun e=>by rw[e]at H;simp only[RR,seval,reduceCtorEq]at H
  have A:=X.symm;simp only[RR,seval];refine a _ _ (aA fun K a=>?_);simp only[RR,seval];refine dW (BA t E 0 false (cJ _)) (by(simp only[aT,RR,seval];done)) trivial fun p o C M1 c a1 S V R=>?_;rw[nF]at c;have d:=R l _ A (by(simp only[A,aT,seval];rfl));have g:=V;simp only[ZB,RR,seval];refine aM fun N I=>?_;have Y:=cY I d;have B:=Y.symm;have M:=cY I g;have z:=M.symm;simp only[RR,seval];refine a _ _ (aI (aA fun K a=>?_));simp only[g,z,RR,seval]
  repeat' ((refine bZ (fun h=>?_) (fun h=>?_))<;>simp only[h,g,z,aE,RR,seval])
  all_goals
   refine a _ _ (aU ?_ ?_)<;>intro n
   ·try (cases n;done)
    all_goals
     have j:Z=(TJ,SC T s.length o,3):=by
      cases k:C with
      |true=>rw[k,HV]at c;rw[←c]at b;exact b.symm
      |false=>
       rw[k,nF]at c;rw[←c]at b
       have v:o<T.length:=by
        first
        |(rw[k]at h;cases h;done)
        |(have:=aB n;omega)
       simp only[bH v]at b;exact b.symm
     subst j;refine aA fun K a=>?_;simp only[RR,seval];refine gO (J5 t T o C S s) (by(simp only[g,z,aT,seval];done)) trivial fun M2 W G=>?_;have O:=G l _ A (by(simp only[d,B,aT,seval];rfl));have a0:=G N _ M (bE _ _ _);have d:=O;have g:=W;simp only[d,RR,seval];apply a;refine aN ?_;simp only[aW,aJ,bN,RR,seval];refine⟨G9 _,qZ,(lN.sub ?_).trans (lN.drop (tI _)),rfl,rfl⟩;exact hP.tup (fF.cons y (fF.refl _))
   try (cases n;done)
   all_goals
    have k:C=false:=by simpa using h
    have v: ¬o<T.length:=by have:=aD n;omega
    rw[k,nF]at c;rw[←c]at b;simp only[aL v]at b;have J:=IT E (cJ _) c.symm;have D:=CW p J.1 fun f Q=>by have:=(J.2 f Q).1;omega
    rw[Pg.av,Pg.row]at D;refine aK ?_;simp only[RR];refine aI (aA fun K a=>?_);simp only[RR,seval];refine aO (D) ?_;simp only[RR,seval];refine a _ _ (aU ?_ ?_)<;>intro F
    ·have j: ¬gD p=true:=by simpa using F
     rw[aL j]at b;subst b;refine aA fun K a=>?_;simp only[d,B,RR,seval];apply a;refine aN ?_;simp only[aW,aJ,bN,RR,seval];refine⟨G9 _,qZ,(lN.sub ?_).trans (lN.drop (tI _)),rfl,rfl⟩;exact hP.tup (fF.cons y (fF.refl _))
    have j:gD p=true:=by simpa using F
    rw[bH j]at b;subst b;refine aK ?_;simp only[RR];refine aA fun K a=>?_;simp only[d,B,RR,seval];apply a;refine aN ?_;simp only[aW,aJ,bN,RR,seval];refine⟨G9 _,qZ,(lN.sub ?_).trans (lN.drop (tI _)),rfl,rfl⟩;exact hP.refl _
def YM (s:dC):Option Pg:=match Di s with
 | .error _=>none
 | .ok T=>match Em T 0 with
   | .bad _=>none
   | .ok e m=>if m<T.length then none else some e
theorem R7 {s:dC} {e:Pg} (h:YM s=some e) (a:gD e=true):G2 s=(e,0,0):=by
 unfold YM at h;unfold G2
 cases hl:Di s with
 |error x=>rw[hl]at h;cases h
 |ok T=>
  rw[hl]at h;simp only at h⊢
  cases hp:Em T 0 with
  |bad m=>rw[hp]at h;cases h
  |ok x m=>
   rw[hp]at h;simp only at h⊢;by_cases c:m<T.length
   ·rw[bH c]at h;cases h
   rw[aL c]at h⊢;cases h;rw[bH a]
def qL:Fu:=⟨[109,97,105,110],[],[],false,[.mk 1 [97] [.mk 5 0 0 [] []] [] [], .mk 5 [] [.mk 6 14 0 [] [.mk 2 0 0 [97] [], .mk 1 0 256 [] []]] [.mk 3 [] [.mk 2 0 0 [97] []] [] [], .mk 1 [97] [.mk 5 0 0 [] []] [] []] []]⟩
def jE:Pg:=⟨[[97]],[],[qL]⟩
def LD:dC:=[118,97,114,32,97,59,32,102,117,110,99,32,109,97,105,110,40,41,32,123,32,97,32,61,32,103,101,116,40,41,59,32,119,104,105,108,101,32,40,97,32,60,32,50,53,54,41,32,123,32,112,117,116,40,97,41,59,32,97,32,61,32,103,101,116,40,41,59,32,125,32,125]
theorem NJ:gD jE=true:=by
 simp only[gD,jC,jE,qL,dG,fO,lP,oK,lI,lQ,lW,lH,Ex.kids,Sm.es,Sm.thn,Sm.els]
 decide+kernel
theorem VS:G2 LD=(jE,0,0):=R7 (by kernel_rfl) NJ
theorem tN:jE.few:=by
 have b:Bt ([]:List Ex):=⟨by simp [fC],by simp⟩;have a:yM ([]:List Sm):=⟨by simp [fC],by simp⟩;have c: ∀{e:Ex},e.ok→Bt [e]:=fun h=>⟨by simp [fC],by simpa using h⟩;have j:(Ex.mk 5 0 0 [] []).ok:= .mk _ _ _ _ _ (by simp [jH]) (by simp [jH]) (by simp [dX]) (by simp [fC]) b.fit b.all;have d:(Ex.mk 2 0 0 [97] []).ok:= .mk _ _ _ _ _ (by simp [jH]) (by simp [jH]) (by simp [dX]) (by simp [fC]) b.fit b.all;have i:(Ex.mk 1 0 256 [] []).ok:= .mk _ _ _ _ _ (by simp [jH]) (by simp [jH]) (by simp [dX]) (by simp [fC]) b.fit b.all;have k:(Ex.mk 6 14 0 [] [.mk 2 0 0 [97] [], .mk 1 0 256 [] []]).ok:= .mk _ _ _ _ _ (by simp [jH]) (by simp [jH]) (by simp [dX]) (by simp [fC]) (by simp [fC]) (by simp [d,i]);have g:(Sm.mk 1 [97] [.mk 5 0 0 [] []] [] []).ok:= .mk _ _ _ _ _ (by simp [jH]) (by simp [fC]) (c j) a.fit a.all a.fit a.all;have m:(Sm.mk 3 [] [.mk 2 0 0 [97] []] [] []).ok:= .mk _ _ _ _ _ (by simp [jH]) (by simp [fC]) (c d) a.fit a.all a.fit a.all;have n:(Sm.mk 5 [] [.mk 6 14 0 [] [.mk 2 0 0 [97] [], .mk 1 0 256 [] []]] [.mk 3 [] [.mk 2 0 0 [97] []] [] [], .mk 1 [97] [.mk 5 0 0 [] []] [] []] []).ok:= .mk _ _ _ _ _ (by simp [jH]) (by simp [fC]) (c k) (by simp [fC]) (by simp [m,g]) a.fit a.all;have l:qL.ok:=⟨by simp [fC,qL],⟨by simp [fC,qL],by simp [qL]⟩,⟨by simp [fC,qL],by simp [qL]⟩,⟨by simp [fC,qL],by simp [qL,g,n]⟩⟩;refine⟨⟨⟨by simp [fC,jE],by simp [fC,jE]⟩,by simp [fC,jE],by simp [jE],by simp [fC,jE],by simpa [jE]using l⟩,by simp [jE],by simp [jE],by simp [jE],fun f h=>?_⟩;simp only[jE,bD]at h;subst h;refine⟨by simp [qL],by simp [qL], ?_⟩;show oZ [_,_]≤_;simp [oZ,Sm.sz,sN,Ex.sz]
theorem MX:gZ jE=0:=by
 simp only[gZ,gD,jC,jE,qL,dG,fO,lP,oK,lI,lQ,lW,lH,lA,kH,qK,jM,jS,nC,nD,eK,fY,Ex.kids,Sm.es,Sm.thn,Sm.els]
 decide+kernel
theorem S3:jB (fun l=>l.all vP) jE=true:=by
 unfold jB;rw[MX];simp only[jE,qL,dG,fO,Si,Sm.kind,Sm.es,Sm.thn,Sm.els,Dv,Ex.kind,Ex.kids]
 decide+kernel
theorem UH:Lib.decDigits 256=[50,53,54]:=by simp [Lib.decDigits]
theorem RN:jX qL.body=[63,58,97,87,97,50,53,54,32,60,68,97,46,63,58,97,69]:=by
 simp [qL,jX,pX,mG,fR,jY,UH,opS]
theorem YE:HG jE=([63,58,97,87,97,50,53,54,32,60,68,97,46,63,58,97,69,36],0):=by
 unfold HG;rw[bH S3];simp only[jE,RN];rfl
def zP:Pg:=⟨[],[],[]⟩
theorem YD:HG zP=([],1):=by
 have :jB (fun l=>l.all vP) zP=false:=by simp [jB,zP]
 unfold HG;rw[aL (by rw[this];decide)]
theorem SH:zP.ok:=⟨⟨by simp [fC,zP],by simp [fC,zP]⟩,by simp [fC,zP],by simp [zP],by simp [fC,zP],by simp [zP]⟩
theorem QG:zP.few:=⟨SH,by simp [zP],by simp [zP],by simp [zP],by simp [zP]⟩
theorem LC:eN dV 27 [] jE.av:=by
 have a:=Pe LD (by decide);rw[VS]at a;have g:jE.av= .agg [.isl 1 (jE.vars.map bQ), .isl 2 (jE.arrs.map Ar.row), .isl 5 (jE.funs.map Fu.row)]:=rfl;have h:G9 (jE,0,0)= .tup [jE.av, .int .i64 0, .int .i64 0]:=rfl;rw[h]at a;rw[g]at a⊢;unfold LD at a;generalize jE.vars.map bQ=l at *;generalize jE.arrs.map Ar.row=m at *;generalize jE.funs.map Fu.row=n at *;refine bX 10 [.cell 0 26] func27 ?_;refine aA fun K b=>?_;simp only[RR,seval];refine aM fun d k=>?_;simp only[RR,seval];refine b _ _ (aA fun K b=>?_);simp only[RR,seval];refine aO (a) ?_;simp only[RR,seval];refine aM fun f c=>?_;have j:f≠d:=fun e=>by rw[e]at c;simp only[RR,seval,reduceCtorEq]at c
 have i:=j.symm;simp only[RR,seval];refine b _ _ (aA fun K b=>?_);simp only[i,RR,seval];apply b;refine aN ?_;simp only[aW,aJ,bN,RR,seval];refine aY.pure ?_;rfl
def HQ:Code→dC
 | .seq c d=>match HQ c with
   |[]=>HQ d
   |l=>l
 | .region _ #[⟨_, .assign (.const (.string s)),_,_,_,_⟩] _=>s.data.toList
 |_=>[]
noncomputable def Rx:dC:=match Tryz.f22.body with
 |some c=>HQ c
 |none=>[]
theorem HW:decide ((0:Int)<(Rx.length:Int))=true:=by decide+kernel
theorem Lm:eN dV 22 [] (.str Rx):=by
 refine bX 1 [.tmp 0] func22 ?_;refine aA fun K a=>?_;simp only[RR,seval];refine a _ _ (aA fun K a=>?_);simp only[RR,seval];apply a;refine aN ?_;simp only[aW,aJ,bN,RR,seval];exact aY.pure (by kernel_rfl)
theorem CL:eN dV 11 [] (.bool true):=by
 have e:=LC;have h:=wA jE tN.ok fun _=>tN;have c:=Cm jE tN.ok (fun _=>tN) (fun f b _=>by simp only[jE,bD]at b;subst b;rw[RN];decide) h;rw[YE]at c;have d:=Cm zP SH (fun _=>QG) (fun f b=>by cases b) (wA zP SH fun _=>QG);rw[YD]at d;have k:fF [.agg [.nsl, .nsl, .nsl]] [zP.av]:=fF.cons (hP.agg (fF.cons (hP.nsl 1) (fF.cons (hP.nsl 2) (fF.cons (hP.nsl 5) (fF.refl _))))) (fF.refl _);have g:=Ip jE tN.ok (fun _=>tN) h;rw[S3]at g;have i:=Lm;have j:=HW;generalize Rx=m at *;generalize jE.av=l at *;generalize zP.av=n at *;simp only at c d;refine bX 34 [.tmp 0] func11 ?_;refine aA fun K a=>?_;simp only[RR,seval];refine a _ _ (aA fun K a=>?_);simp only[RR,seval];refine aO (e) ?_;simp only[RR,seval];refine aO (c) ?_;simp only[RR,seval];refine a _ _ (aA fun K a=>?_);simp only[RR,seval];refine Dx d k ?_;simp only[RR,seval];refine a _ _ (aA fun K a=>?_);simp only[RR,seval];refine aO (e) ?_;simp only[RR,seval];refine aO (g) ?_;simp only[RR,seval];refine aO (i) ?_;simp only[j,RR,seval];apply a;refine aN ?_;simp only[aW,aJ,bN,RR,seval];refine aY.pure ?_;rfl
end Go.Proofs.YtaecpjgmcffliaaGreatDoor
