/- Jf -/
import Derived.Test.YtaecpjgmcffliaaGreatDoorJa
import Derived.Test.YtaecpjgmcffliaaGreatDoorLx
import Derived.Test.YtaecpjgmcffliaaGreatDoorWb
import Derived.Test.YtaecpjgmcffliaaGreatDoorAl3
set_option linter.unusedSimpArgs false
set_option linter.unusedVariables false
set_option maxHeartbeats 8000000
set_option maxRecDepth 100000
namespace Go.Al
theorem dZ.offnone {sz:Nat} {v:AV} {rows:List (List AV)} {H:Hp} {b:Nat} (h:dZ sz v rows H) (d:H b=none):Al.off v b:=fun s n e=>by
 rcases h with⟨rfl,_⟩|⟨c,rfl,a⟩
 ·cases e
 cases e;rw[d]at a;cases a
def eP (op a b:Int):Int×Int:=
 if op=4 then(IntKind.wrap .u32 (a+b),0)
 else if op=5 then(IntKind.wrap .u32 (a-b),0)
 else if op=6 then(IntKind.wrap .u32 (a *b),0)
 else if op=7 then(if b=0 then(0,14)else(IntKind.wrap .u32 (a.tdiv b),0))
 else if op=8 then(if b=0 then(0,14)else(a.tmod b,0))
 else if op=9 then(IntKind.wrap .u32 (BitVec.ofInt 32 a&&&BitVec.ofInt 32 b).toNat,0)
 else if op=10 then(IntKind.wrap .u32 (BitVec.ofInt 32 a|||BitVec.ofInt 32 b).toNat,0)
 else if op=11 then(IntKind.wrap .u32 (BitVec.ofInt 32 a^^^BitVec.ofInt 32 b).toNat,0)
 else if op=12 then(if 31<b then(0,0)else(IntKind.wrap .u32 (a *2^(min b.toNat 32)),0))
 else if op=13 then(if 31<b then(0,0)else(a.fdiv (2^(min b.toNat 32)),0))
 else if op=14 then((if a<b then 1 else 0),0)
 else if op=15 then((if a=b then 1 else 0),0)
 else(0,1)
structure RS where
 vars:List Int
 arrs:List (List Int)
 read:Nat
 out:List UInt8
 ticks:Nat
inductive Rz (α:Type) where
 |val (a:α) (s:RS)
 |fin (e:Int) (s:RS)
def Rz.st {α:Type}:Rz α→RS| .val _ s=>s| .fin _ s=>s
structure Cf where
 words:Nat
 res:dE→Bool×Int
 body:List Sm
structure Cx where
 funs:List Cf
 inp:dE
 fuel:Nat
def bindR {α β:Type} (x:Option (Rz α)) (f:α→RS→Option (Rz β)):Option (Rz β):=match x with
 |none=>none
 |some (.val a s)=>f a s
 |some (.fin e s)=>some (.fin e s)
def lP (cx:Cx) (s:RS):Rz Unit:=if cx.fuel≤s.ticks then .fin 5 s else .val () {s with ticks:=s.ticks+1}
def yE (cx:Cx) (s:RS):Rz Int:=match cx.inp[s.read]? with
 |some c=> .val c.toNat {s with read:=s.read+1}
 |none=> .val 256 s
def Ge (v:Int) (s:RS):Rz Unit:=if 65536≤s.out.length then .fin 4 s else .val () {s with out:=s.out++[UInt8.ofNat (IntKind.wrap .u8 v).toNat]}
def A9 (i at':Int) (s:RS):Option (Rz Nat):=match s.arrs[i.toNat]? with
 |none=>none
 |some l=>if at'.toNat<l.length then some (.val at'.toNat s)else some (.fin 3 s)
def Ho (i:Int) (j:Nat) (v:Int) (s:RS):RS:={s with arrs:=s.arrs.modify i.toNat fun l=>l.set j v}
def Nr (p:Bool×Int) (v:Int) (ow:List Int) (s:RS):Option (List Int×RS):=
 if 0≤p.2 then(if p.1 then(if p.2.toNat<ow.length then some (ow.set p.2.toNat v,s)else none)else if p.2.toNat<s.vars.length then some (ow,{s with vars:=s.vars.set p.2.toNat v})else none)else none
def Eh (p:Bool×Int) (ow:List Int) (s:RS):Option Int:=if 0≤p.2 then(if p.1 then ow[p.2.toNat]? else s.vars[p.2.toNat]?)else none
mutual
def jZ (cx:Cx):Nat→(dE→Bool×Int)→List Int→Ex→RS→Option (Rz Int)
 |0,_,_,_,_=>none
 |n+1,rs,ow, .mk k o m s l,st=>
  if k=1 then some (.val m st)
  else if k=2 then(Eh (rs s) ow st).map fun v=> .val v st
  else if k=3 then match l[0]? with
   |none=>none
   |some a=>bindR (jZ cx n rs ow a st) fun at' st=>if 0≤(rs s).2 then bindR (A9 (rs s).2 at' st) fun j st=>((st.arrs[(rs s).2.toNat]?).bind fun l=>l[j]?).map fun v=> .val v st else none
  else if k=4 then Gi cx n rs ow (rs s).2 l st
  else if k=5 then some (yE cx st)
  else match l[0]? with
   |none=>none
   |some a=>
    if k=7 then bindR (jZ cx n rs ow a st) fun x st=>some (.val (if x=0 then 1 else 0) st)
    else match l[1]? with
    |none=>none
    |some b=>
     if k=6 then bindR (jZ cx n rs ow a st) fun x st=>bindR (jZ cx n rs ow b st) fun y st=>if(eP o x y).2=0 then some (.val (eP o x y).1 st)else some (.fin 2 st)
     else bindR (jZ cx n rs ow a st) fun x st=>if decide (x=0)=decide (k=8)then some (.val x st)else jZ cx n rs ow b st
def wO (cx:Cx):Nat→(dE→Bool×Int)→List Int→List Ex→RS→Option (Rz (List Int))
 |0,_,_,_,_=>none
 |_+1,_,_,[],st=>some (.val [] st)
 |n+1,rs,ow,e::l,st=>bindR (jZ cx n rs ow e st) fun v st=>bindR (wO cx n rs ow l st) fun vs st=>some (.val (v::vs) st)
def Gi (cx:Cx):Nat→(dE→Bool×Int)→List Int→Int→List Ex→RS→Option (Rz Int)
 |0,_,_,_,_,_=>none
 |n+1,rs,ow,i,l,st=>if i<0 then none else match cx.funs[i.toNat]? with
  |none=>none
  |some f=>if f.words<l.length then none else bindR (wO cx n rs ow l st) fun vs st=>bindR (some (lP cx st)) fun _ st=>
   bindR (nK cx n f.res (vs++List.replicate (f.words-l.length) 0) f.body st) fun r st=>some (.val (r.1.getD 0) st)
def oW (cx:Cx):Nat→(dE→Bool×Int)→List Int→Sm→RS→Option (Rz (Option Int×List Int))
 |0,_,_,_,_=>none
 |n+1,rs,ow, .mk k s l t u,st=>
  if k=1 then match l[0]? with
   |none=>none
   |some a=>bindR (jZ cx n rs ow a st) fun v st=>(Nr (rs s) v ow st).map fun p=> .val (none,p.1) p.2
  else if k=2 then match l[0]?,l[1]? with
   |some a,some b=>bindR (jZ cx n rs ow a st) fun x st=>bindR (jZ cx n rs ow b st) fun v st=>if 0≤(rs s).2 then bindR (A9 (rs s).2 x st) fun j st=>some (.val (none,ow) (Ho (rs s).2 j v st))else none
   |_,_=>none
  else if k=3 then match l[0]? with
   |none=>none
   |some a=>bindR (jZ cx n rs ow a st) fun v st=>bindR (some (Ge v st)) fun _ st=>some (.val (none,ow) st)
  else if k=4 then match l[0]? with
   |none=>none
   |some a=>bindR (jZ cx n rs ow a st) fun v st=>if v=0 then nK cx n rs ow u st else nK cx n rs ow t st
  else if k=5 then match l[0]? with
   |none=>none
   |some a=>xT cx n rs ow a t st
  else if k=6 then bindR (Gi cx n rs ow (rs s).2 l st) fun _ st=>some (.val (none,ow) st)
  else if k=7 then match l[0]? with
   |none=>some (.val (some 0,ow) st)
   |some a=>bindR (jZ cx n rs ow a st) fun v st=>some (.val (some v,ow) st)
  else some (.val (none,ow) st)
def nK (cx:Cx):Nat→(dE→Bool×Int)→List Int→List Sm→RS→Option (Rz (Option Int×List Int))
 |0,_,_,_,_=>none
 |_+1,_,ow,[],st=>some (.val (none,ow) st)
 |n+1,rs,ow,s::l,st=>bindR (oW cx n rs ow s st) fun r st=>match r.1 with
  |some v=>some (.val (some v,r.2) st)
  |none=>nK cx n rs r.2 l st
def xT (cx:Cx):Nat→(dE→Bool×Int)→List Int→Ex→List Sm→RS→Option (Rz (Option Int×List Int))
 |0,_,_,_,_,_=>none
 |n+1,rs,ow,c,t,st=>bindR (some (lP cx st)) fun _ st=>bindR (jZ cx n rs ow c st) fun x st=>if x=0 then some (.val (none,ow) st)else
  bindR (nK cx n rs ow t st) fun r st=>match r.1 with
  |some v=>some (.val (some v,r.2) st)
  |none=>xT cx n rs r.2 c t st
end
def jW {α:Type} (x y:Option α):Prop:= ∀o,x=some o→y=some o
theorem jW.refl {a:Type} (x:Option a):jW x x:=fun _ h=>h
theorem jW.none {a:Type} (y:Option a):jW none y:=fun _ h=>by cases h
theorem jW.bindR {c d:Type} {x y:Option (Rz c)} {f g:c→RS→Option (Rz d)} (h:jW x y) (hf: ∀a s,jW (f a s) (g a s)):jW (bindR x f) (bindR y g):=fun o b=>by
 cases x with
 |none=>cases b
 |some r=>
  have:=h r rfl;subst this
  cases r with
  |val a s=>exact hf a s o b
  |fin e s=>exact b
theorem jW.ite {e:Type} {c:Prop} [Decidable c] {x y a b:Option e} (h:jW x a) (d:jW y b):jW (if c then x else y) (if c then a else b):=by
 split
 ·exact h
 exact d
structure Deep (cx:Cx) (n:Nat):Prop where
 E: ∀rs ow e st,jW (jZ cx n rs ow e st) (jZ cx (n+1) rs ow e st)
 A: ∀rs ow l st,jW (wO cx n rs ow l st) (wO cx (n+1) rs ow l st)
 C: ∀rs ow i l st,jW (Gi cx n rs ow i l st) (Gi cx (n+1) rs ow i l st)
 S: ∀rs ow e st,jW (oW cx n rs ow e st) (oW cx (n+1) rs ow e st)
 L: ∀rs ow l st,jW (nK cx n rs ow l st) (nK cx (n+1) rs ow l st)
 W: ∀rs ow c t st,jW (xT cx n rs ow c t st) (xT cx (n+1) rs ow c t st)
theorem Dm (cx:Cx) (n:Nat):Deep cx n:=by
 induction n with
 |zero=>
  constructor
  all_goals
   intros
   intro o h;simp [jZ,wO,Gi,oW,nK,xT]at h
 |succ n ih=>
  obtain⟨d,z,A,C,g,B⟩:=ih;constructor
  ·rintro y p ⟨k,o,m,s,l⟩ st
   simp only[jZ];refine jW.ite (jW.refl _) (jW.ite (jW.refl _) (jW.ite ?_ (jW.ite (A _ _ _ _ _) (jW.ite (jW.refl _) ?_))))
   ·cases l[0]? with
    |none=>exact jW.refl _
    |some a=>exact jW.bindR (d _ _ _ _) fun _ _=>jW.refl _
   cases l[0]? with
   |none=>exact jW.refl _
   |some a=>
    refine jW.ite (jW.bindR (d _ _ _ _) fun _ _=>jW.refl _) ?_
    cases l[1]? with
    |none=>exact jW.refl _
    |some b=>
     refine jW.ite (jW.bindR (d _ _ _ _) fun _ _=>jW.bindR (d _ _ _ _) fun _ _=>jW.refl _) ?_;exact jW.bindR (d _ _ _ _) fun _ _=>jW.ite (jW.refl _) (d _ _ _ _)
  ·intro y p l st
   cases l with
   |nil=>simp only[wO];exact jW.refl _
   |cons e l=>
    simp only[wO];exact jW.bindR (d _ _ _ _) fun _ _=>jW.bindR (z _ _ _ _) fun _ _=>jW.refl _
  ·intro y p i l st
   simp only[Gi];refine jW.ite (jW.refl _) ?_
   cases cx.funs[i.toNat]? with
   |none=>exact jW.refl _
   |some f=>exact jW.ite (jW.refl _) (jW.bindR (z _ _ _ _) fun _ _=>jW.bindR (jW.refl _) fun _ _=>jW.bindR (g _ _ _ _) fun _ _=>jW.refl _)
  ·rintro y p ⟨k,s,l,t,u⟩ st
   simp only[oW];refine jW.ite ?_ (jW.ite ?_ (jW.ite ?_ (jW.ite ?_ (jW.ite ?_ (jW.ite ?_ (jW.ite ?_ (jW.refl _)))))))
   ·cases l[0]? with
    |none=>exact jW.refl _
    |some a=>exact jW.bindR (d _ _ _ _) fun _ _=>jW.refl _
   ·cases l[0]? with
    |none=>exact jW.refl _
    |some a=>
     cases l[1]? with
     |none=>exact jW.refl _
     |some b=>exact jW.bindR (d _ _ _ _) fun _ _=>jW.bindR (d _ _ _ _) fun _ _=>jW.refl _
   ·cases l[0]? with
    |none=>exact jW.refl _
    |some a=>exact jW.bindR (d _ _ _ _) fun _ _=>jW.refl _
   ·cases l[0]? with
    |none=>exact jW.refl _
    |some a=>exact jW.bindR (d _ _ _ _) fun _ _=>jW.ite (g _ _ _ _) (g _ _ _ _)
   ·cases l[0]? with
    |none=>exact jW.refl _
    |some a=>exact B _ _ _ _ _
   ·exact jW.bindR (A _ _ _ _ _) fun _ _=>jW.refl _
   cases l[0]? with
   |none=>exact jW.refl _
   |some a=>exact jW.bindR (d _ _ _ _) fun _ _=>jW.refl _
  ·intro y p l st
   cases l with
   |nil=>simp only[nK];exact jW.refl _
   |cons s l=>
    simp only[nK];refine jW.bindR (C _ _ _ _) fun r st=>?_
    cases r.1 with
    |some v=>exact jW.refl _
    |none=>exact g _ _ _ _
  intro y p c t st;simp only[xT];refine jW.bindR (jW.refl _) fun _ st=>jW.bindR (d _ _ _ _) fun x st=>jW.ite (jW.refl _) (jW.bindR (g _ _ _ _) fun r st=>?_)
  cases r.1 with
  |some v=>exact jW.refl _
  |none=>exact B _ _ _ _ _
theorem Jn {b:Type} {f:Nat→Option b} (h: ∀n,jW (f n) (f (n+1))) {n m:Nat} (c:n≤m):jW (f n) (f m):=by
 induction m with
 |zero=>obtain rfl:n=0:=by omega
        exact jW.refl _
 |succ m ih=>
  rcases qD m n with h1|h1
  ·obtain rfl:n=m+1:=by omega
   exact jW.refl _
  exact fun o a=>h m o (ih h1 o a)
theorem Yn {cx:Cx} {n m:Nat} (a:n≤m) {rs ow e st o} (h:jZ cx n rs ow e st=some o):jZ cx m rs ow e st=some o:=Jn (f:=fun n=>jZ cx n rs ow e st) (fun n=>(Dm cx n).E _ _ _ _) a o h
theorem KB {cx:Cx} {n m:Nat} (a:n≤m) {rs ow e st o} (h:oW cx n rs ow e st=some o):oW cx m rs ow e st=some o:=Jn (f:=fun n=>oW cx n rs ow e st) (fun n=>(Dm cx n).S _ _ _ _) a o h
theorem KC {cx:Cx} {n m:Nat} (a:n≤m) {rs ow e st o} (h:nK cx n rs ow e st=some o):nK cx m rs ow e st=some o:=Jn (f:=fun n=>nK cx n rs ow e st) (fun n=>(Dm cx n).L _ _ _ _) a o h
def iW {α:Type} (f:Nat→Option (Rz α)) (P:α→RS→Prop):Prop:= ∃n r,f n=some r∧ ∀a s,r= .val a s→P a s
def gU {α:Type} (f:Nat→Option α):Prop:= ∀n,jW (f n) (f (n+1))
theorem gU.const {a:Type} (x:Option a):gU fun _=>x:=fun _=>jW.refl _
theorem iW.const {b:Type} {x:Rz b} {P:b→RS→Prop} (h: ∀a s,x= .val a s→P a s):iW (fun _=>some x) P:=⟨0,x,rfl,h⟩
theorem iW.mono {b:Type} {f:Nat→Option (Rz b)} {P Q:b→RS→Prop} (h:iW f P) (g: ∀a s,P a s→Q a s):iW f Q:=by
 obtain⟨n,r,c,d⟩:=h;exact⟨n,r,c,fun a s e=>g a s (d a s e)⟩
theorem iW.bind {b d:Type} {f:Nat→Option (Rz b)} {g:b→RS→Nat→Option (Rz d)} {P:b→RS→Prop} {Q:d→RS→Prop} (h:iW f P) (hf:gU f) (v: ∀a s,gU (g a s)) (o: ∀a s,P a s→iW (g a s) Q):iW (fun n=>bindR (f n) fun a s=>g a s n) Q:=by
 obtain⟨n,r,c,t⟩:=h
 cases r with
 |fin e s=>exact⟨n, .fin e s,by simp only[c,bindR],fun a s e=>by cases e⟩
 |val a s=>
  obtain⟨m,r,p,u⟩:=o a s (t a s rfl);refine⟨max n m,r, ?_,u⟩;have k:=Jn hf (Nat.le_max_left n m) _ c;have l:=Jn (v a s) (Nat.le_max_right n m) _ p;simp only[k,bindR];exact l
theorem iW.ite {b:Type} {c:Prop} [Decidable c] {f g:Nat→Option (Rz b)} {P:b→RS→Prop} (d:c→iW f P) (k: ¬c→iW g P):iW (fun n=>if c then f n else g n) P:=by
 by_cases h:c
 ·obtain⟨n,r,e,a⟩:=d h;exact⟨n,r,by simp only[bF h,e],a⟩
 obtain⟨n,r,e,a⟩:=k h;exact⟨n,r,by simp only[aO h,e],a⟩
theorem iW.succ {a:Type} {f g:Nat→Option (Rz a)} {P:a→RS→Prop} (h:iW f P) (d: ∀n,g (n+1)=f n):iW g P:=by
 obtain⟨n,r,b,c⟩:=h;exact⟨n+1,r,by rw[d,b],c⟩
theorem mE (cx:Cx) (rs ow e st):gU fun n=>jZ cx n rs ow e st:=fun n=>(Dm cx n).E _ _ _ _
theorem mA (cx:Cx) (rs ow e st):gU fun n=>wO cx n rs ow e st:=fun n=>(Dm cx n).A _ _ _ _
theorem mC (cx:Cx) (rs ow i e st):gU fun n=>Gi cx n rs ow i e st:=fun n=>(Dm cx n).C _ _ _ _ _
theorem mS (cx:Cx) (rs ow e st):gU fun n=>oW cx n rs ow e st:=fun n=>(Dm cx n).S _ _ _ _
theorem mL (cx:Cx) (rs ow e st):gU fun n=>nK cx n rs ow e st:=fun n=>(Dm cx n).L _ _ _ _
theorem mW (cx:Cx) (rs ow c e st):gU fun n=>xT cx n rs ow c e st:=fun n=>(Dm cx n).W _ _ _ _ _
theorem gU.bind {b d:Type} {f:Nat→Option (Rz b)} {g:b→RS→Nat→Option (Rz d)} (hf:gU f) (c: ∀a s,gU (g a s)):gU fun n=>bindR (f n) fun a s=>g a s n:=fun n=>jW.bindR (hf n) fun a s=>c a s n
theorem gU.ite {b:Type} {c:Prop} [Decidable c] {f g:Nat→Option b} (hf:gU f) (a:gU g):gU fun n=>if c then f n else g n:=fun n=>jW.ite (hf n) (a n)
structure Nm (cx:Cx) (nv na i:Nat) where
 w:Nat
 res:dE→Bool×Int
def CJ (cx:Cx) (nv i:Nat) (p:Bool×Int):Prop:=0≤p.2∧(p.1=true→ ∀f,cx.funs[i]?=some f→p.2<f.words)∧(p.1=false→p.2<nv)
def Up (cx:Cx) (i:Nat) (p:Bool×Int) (k:Nat):Prop:=0≤p.2∧p.2<i∧ ∃f,cx.funs[p.2.toNat]?=some f∧k≤f.words
mutual
def VA (cx:Cx) (nv na i:Nat) (rs:dE→Bool×Int):Ex→Prop
 | .mk k _ _ s l=>(k=2→CJ cx nv i (rs s))∧(k=3→0≤(rs s).2∧(rs s).2<na∧1≤l.length)∧(k=4→Up cx i (rs s) l.length)∧(k=7→1≤l.length)∧(k≠1→k≠2→k≠3→k≠4→k≠5→k≠7→2≤l.length)∧yY cx nv na i rs l
def yY (cx:Cx) (nv na i:Nat) (rs:dE→Bool×Int):List Ex→Prop
 |[]=>True
 |e::l=>VA cx nv na i rs e∧yY cx nv na i rs l
end
mutual
def UQ (cx:Cx) (nv na i:Nat) (rs:dE→Bool×Int):Sm→Prop
 | .mk k s l t u=>(k=1→CJ cx nv i (rs s))∧(k=2→0≤(rs s).2∧(rs s).2<na∧2≤l.length)∧(k=6→Up cx i (rs s) l.length)∧(k=1∨k=3∨k=4∨k=5→1≤l.length)∧yY cx nv na i rs l∧Hg cx nv na i rs t∧Hg cx nv na i rs u
def Hg (cx:Cx) (nv na i:Nat) (rs:dE→Bool×Int):List Sm→Prop
 |[]=>True
 |e::l=>UQ cx nv na i rs e∧Hg cx nv na i rs l
end
theorem vW {cx:Cx} {nv na i:Nat} {a:dE→Bool×Int}: ∀{l:List Ex},yY cx nv na i a l→ ∀{j:Nat} {e:Ex},l[j]?=some e→VA cx nv na i a e∧e.sz≤pB l
 |[],_,j,e,h=>by simp at h
 |x::l,hw,0,e,h=>by
  simp only[yY]at hw;simp only[dJ,Option.some.injEq]at h;subst h;exact⟨hw.1,by simp only[pB];omega⟩
 |x::l,hw,j+1,e,h=>by
  simp only[yY]at hw;simp only[fB]at h;have:=vW hw.2 h;exact⟨this.1,by simp only[pB];omega⟩
structure Fm (nv na t:Nat) (s:RS):Prop where
 v:s.vars.length=nv
 a:s.arrs.length=na
 t:t≤s.ticks
theorem Fm.self {nv na t:Nat} {s:RS} (h:Fm nv na t s):Fm nv na s.ticks s:=⟨h.v,h.a,aZ _⟩
theorem Fm.trans {nv na t b:Nat} {s:RS} (c:t≤b) (h:Fm nv na b s):Fm nv na t s:=⟨h.v,h.a,oH c h.t⟩
def KQ (cx:Cx) (nv na j:Nat):Prop:= ∀f,cx.funs[j]?=some f→ ∀(ow:List Int) (st:RS),ow.length=f.words→st.vars.length=nv→st.arrs.length=na→
 iW (fun n=>nK cx n f.res ow f.body st) (fun _ s=>Fm nv na st.ticks s)
section
variable {cx : Cx} {nv na i : Nat} {f : Cf} (hf : cx.funs[i]? = some f) (hb : ∀ j, j < i → KQ cx nv na j)
include hf hb
theorem VJ (N:Nat):(∀e:Ex,e.sz≤N→VA cx nv na i f.res e→ ∀(d:List Int) (st:RS) (t:Nat),d.length=f.words→Fm nv na t st→iW (fun n=>jZ cx n f.res d e st) (fun _ s=>Fm nv na t s)):=by
 induction N with
 |zero=>intro e S;have:=e.sz_eq;omega
 |succ N ih=>
  have a0: ∀l:List Ex,pB l≤N→yY cx nv na i f.res l→ ∀(d:List Int) (st:RS) (t:Nat),d.length=f.words→Fm nv na t st→iW (fun n=>wO cx n f.res d l st) (fun vs s=>Fm nv na t s∧vs.length=l.length):=by
   intro l
   induction l with
   |nil=>intro _ _ d st t D c;exact iW.succ (f:=fun _=>some (.val [] st)) (iW.const fun a s e=>by cases e;exact⟨c,rfl⟩) fun n=>by simp only[wO]
   |cons e l ihl=>
    intro hs E d st t D c;simp only[pB]at hs;simp only[yY]at E;refine iW.succ (f:=fun n=>bindR (jZ cx n f.res d e st) fun v st=>bindR (wO cx n f.res d l st) fun vs st=>some (.val (v::vs) st)) ?_ fun n=>by simp only[wO]
    refine iW.bind (ih e (by omega) E.1 d st t D c) (mE _ _ _ _ _) (fun a s=>gU.bind (mA _ _ _ _ _) fun _ _=>gU.const _) fun a s G=>?_;refine iW.bind (ihl (by omega) E.2 d s t D G) (mA _ _ _ _ _) (fun _ _=>gU.const _) fun vs R A=>?_;exact iW.const fun a s e=>by cases e;exact⟨A.1,by simp [A.2]⟩
  rintro⟨k,o,m,s,l⟩ S E d st t D c;simp only[VA]at E;obtain⟨w2,w3,w4,w7,V,W⟩:=E;simp only[Ex.sz]at S
  have F: ∀{j:Nat} {a:Ex},l[j]?=some a→ ∀(st:RS) (t:Nat),Fm nv na t st→iW (fun n=>jZ cx n f.res d a st) (fun _ s=>Fm nv na t s):=fun {j a} Y st t c=>by
   have:=vW W Y;exact ih a (by omega) this.1 d st t D c
  have get: ∀{j:Nat},j<l.length→ ∃a,l[j]?=some a:=fun {j} h=>⟨l[j],aC h⟩;refine iW.succ (f:=fun n=>jZ cx (n+1) f.res d (.mk k o m s l) st) ?_ fun n=>rfl;simp only[jZ];refine iW.ite (fun G=>iW.const fun a s e=>by cases e;exact c) fun G=>iW.ite (fun A=>?_) fun A=>iW.ite (fun H=>?_) fun H=>iW.ite (fun I=>?_) fun I=>iW.ite (fun K=>iW.const fun a s e=>?_) fun K=>?_
  ·obtain⟨J,O,Q⟩:=w2 A
   have : ∃v,Eh (f.res s) d st=some v:=by
    unfold Eh;rw[bF J]
    cases hb:(f.res s).1 with
    |true=>
     have:=O hb f hf;exact⟨_,aC (by omega)⟩
    |false=>
     have:=Q hb;have:=c.v;exact⟨_,aC (by omega)⟩
   obtain⟨v,hv⟩:=this;rw[hv];exact iW.const fun a s e=>by cases e;exact c
  ·obtain⟨J,O,Q⟩:=w3 H
   obtain⟨a,B⟩:=get (j:=0) (by omega);simp only[B];refine iW.bind (F B st t c) (mE _ _ _ _ _) (fun _ _=>gU.const _) fun x z p=>?_;rw[bF J];have U:(f.res s).2.toNat<z.arrs.length:=by have:=p.a;omega
   unfold A9;rw[aC U];simp only;generalize Z:z.arrs[(f.res s).2.toNat]=r;by_cases M:x.toNat<r.length
   ·simp only[M,cQ,bindR,aC U,Z,bX]
    rw[aC M];exact iW.const fun a s e=>by cases e;exact p
   simp only[M,dT,bindR];exact iW.const fun a s e=>by cases e
  ·obtain⟨J,O,g,T,Q⟩:=w4 I
   refine iW.succ (f:=fun n=>Gi cx (n+1) f.res d (f.res s).2 l st) ?_ fun n=>rfl;simp only[Gi,aO (show ¬(f.res s).2<0 by omega),T,aO (show ¬g.words<l.length by omega)];refine iW.bind (a0 l (by omega) W d st t D c) (mA _ _ _ _ _) (fun a s=>gU.bind (gU.const _) fun _ _=>gU.bind (mL _ _ _ _ _) fun _ _=>gU.const _) fun vs z p=>?_;refine iW.bind (P:=fun _ s=>Fm nv na t s) (iW.const fun a s e=>?_) (gU.const _) (fun _ _=>gU.bind (mL _ _ _ _ _) fun _ _=>gU.const _) fun _ R u=>?_
   ·unfold lP at e
    split at e
    ·cases e
    cases e;exact⟨p.1.v,p.1.a,by have:=p.1.t;simp only;omega⟩
   refine iW.bind (hb _ (by omega) g T _ R (by simp [p.2];omega) u.v u.a) (mL _ _ _ _ _) (fun _ _=>gU.const _) fun r s3 C=>?_;exact iW.const fun a s e=>by cases e;exact C.trans u.t
  ·unfold yE at e
   split at e
   ·cases e;exact⟨c.v,c.a,c.t⟩
   cases e;exact c
  have h0:1≤l.length:=by
   by_cases u:k=7
   ·exact w7 u
   have:=V G A H I K u;omega
  obtain⟨a,B⟩:=get (j:=0) (by omega);simp only[B];refine iW.ite (fun u=>?_) fun u=>?_
  ·refine iW.bind (F B st t c) (mE _ _ _ _ _) (fun _ _=>gU.const _) fun x z p=>?_
   exact iW.const fun a s e=>by cases e;exact p
  obtain⟨b,L⟩:=get (j:=1) (by have:=V G A H I K u;omega);simp only[L];refine iW.ite (fun p=>?_) fun p=>?_
  ·refine iW.bind (F B st t c) (mE _ _ _ _ _) (fun _ _=>gU.bind (mE _ _ _ _ _) fun _ _=>gU.const _) fun x z C=>?_
   refine iW.bind (F L z t C) (mE _ _ _ _ _) (fun _ _=>gU.const _) fun y R X=>?_;split
   ·exact iW.const fun a s e=>by cases e;exact X
   exact iW.const fun a s e=>by cases e
  refine iW.bind (F B st t c) (mE _ _ _ _ _) (fun _ _=>gU.ite (gU.const _) (mE _ _ _ _ _)) fun x z C=>?_;exact iW.ite (fun _=>iW.const fun a s e=>by cases e;exact C) fun _=>F L z t C
end
structure Fs (nv na w t:Nat) (r:Option Int×List Int) (s:RS):Prop where
 f:Fm nv na t s
 w:r.2.length=w
section
variable {cx : Cx} {nv na i : Nat} {f : Cf} (hf : cx.funs[i]? = some f) (hb : ∀ j, j < i → KQ cx nv na j)
include hf hb
theorem YB: ∀l:List Ex,yY cx nv na i f.res l→ ∀(b:List Int) (st:RS) (t:Nat),b.length=f.words→Fm nv na t st→iW (fun n=>wO cx n f.res b l st) (fun vs s=>Fm nv na t s∧vs.length=l.length):=by
 intro l
 induction l with
 |nil=>intro _ b st t d c;exact iW.succ (f:=fun _=>some (.val [] st)) (iW.const fun a s e=>by cases e;exact⟨c,rfl⟩) fun n=>by simp only[wO]
 |cons e l ihl=>
  intro g b st t d c;simp only[yY]at g;refine iW.succ (f:=fun n=>bindR (jZ cx n f.res b e st) fun v st=>bindR (wO cx n f.res b l st) fun vs st=>some (.val (v::vs) st)) ?_ fun n=>by simp only[wO]
  refine iW.bind (VJ hf hb e.sz e (aZ _) g.1 b st t d c) (mE _ _ _ _ _) (fun a s=>gU.bind (mA _ _ _ _ _) fun _ _=>gU.const _) fun a s o=>?_;refine iW.bind (ihl g.2 b s t d o) (mA _ _ _ _ _) (fun _ _=>gU.const _) fun vs p k=>?_;exact iW.const fun a s e=>by cases e;exact⟨k.1,by simp [k.2]⟩
theorem YA (l:List Ex) (A:yY cx nv na i f.res l) {p:Bool×Int} (x:Up cx i p l.length) (c:List Int) (st:RS) (t:Nat) (y:c.length=f.words) (u:Fm nv na t st):iW (fun n=>Gi cx n f.res c p.2 l st) (fun _ s=>Fm nv na t s):=by
 obtain⟨B,C,g,k,D⟩:=x;refine iW.succ (f:=fun n=>Gi cx (n+1) f.res c p.2 l st) ?_ fun n=>rfl;simp only[Gi,aO (show ¬p.2<0 by omega),k,aO (show ¬g.words<l.length by omega)];refine iW.bind (YB hf hb l A c st t y u) (mA _ _ _ _ _) (fun a s=>gU.bind (gU.const _) fun _ _=>gU.bind (mL _ _ _ _ _) fun _ _=>gU.const _) fun vs E b=>?_;refine iW.bind (P:=fun _ s=>Fm nv na t s) (iW.const fun a s e=>?_) (gU.const _) (fun _ _=>gU.bind (mL _ _ _ _ _) fun _ _=>gU.const _) fun _ z d=>?_
 ·unfold lP at e
  split at e
  ·cases e
  cases e;exact⟨b.1.v,b.1.a,by have:=b.1.t;simp only;omega⟩
 refine iW.bind (hb _ (by omega) g k _ z (by simp [b.2];omega) d.v d.a) (mL _ _ _ _ _) (fun _ _=>gU.const _) fun r F o=>?_;exact iW.const fun a s e=>by cases e;exact o.trans d.t
theorem XZ (M:Nat): ∀N:Nat,(∀e:Sm,e.sz≤N→UQ cx nv na i f.res e→ ∀(d:List Int) (st:RS),d.length=f.words→st.vars.length=nv→st.arrs.length=na→cx.fuel-st.ticks≤M→iW (fun n=>oW cx n f.res d e st) (Fs nv na f.words st.ticks))∧
  (∀l:List Sm,lQ l<N→Hg cx nv na i f.res l→ ∀(d:List Int) (st:RS),d.length=f.words→st.vars.length=nv→st.arrs.length=na→cx.fuel-st.ticks≤M→iW (fun n=>nK cx n f.res d l st) (Fs nv na f.words st.ticks)):=by
 induction M using Nat.strongRecOn with
 |_ M ihM=>
 intro N
 induction N with
 |zero=>exact⟨fun e Z=>by have:=e.sz_eq;omega,fun l H=>by omega⟩
 |succ N ih=>
  obtain⟨a5,a0⟩:=ih;have Q: ∀st:RS,st.vars.length=nv→st.arrs.length=na→Fm nv na st.ticks st:=fun st z G=>⟨z,G,aZ _⟩
  have one: ∀e:Sm,e.sz≤N+1→UQ cx nv na i f.res e→ ∀(d:List Int) (st:RS),d.length=f.words→st.vars.length=nv→st.arrs.length=na→cx.fuel-st.ticks≤M→iW (fun n=>oW cx n f.res d e st) (Fs nv na f.words st.ticks):=by
   rintro⟨k,s,l,t,u⟩ Z F d st g E D X;simp only[UQ]at F;obtain⟨w1,w2,w6,K,L,S,wu⟩:=F;simp only[Sm.sz]at Z;have B:=Q st E D
   have C: ∀{j:Nat} {a:Ex},l[j]?=some a→ ∀(st:RS) (t:Nat),Fm nv na t st→iW (fun n=>jZ cx n f.res d a st) (fun _ s=>Fm nv na t s):=fun {j a} hj st t B=>by
    have:=vW L hj;exact VJ hf hb a.sz a (aZ _) this.1 d st t g B
   have get: ∀{j:Nat},j<l.length→ ∃a,l[j]?=some a:=fun {j} h=>⟨l[j],aC h⟩;refine iW.succ (f:=fun n=>oW cx (n+1) f.res d (.mk k s l t u) st) ?_ fun n=>rfl;simp only[oW];refine iW.ite (fun z=>?_) fun z=>iW.ite (fun G=>?_) fun G=>iW.ite (fun T=>?_) fun T=>iW.ite (fun U=>?_) fun U=>iW.ite (fun V=>?_) fun V=>iW.ite (fun W=>?_) fun W=>iW.ite (fun h7=>?_) fun h7=>iW.const fun a s e=>by cases e;exact⟨B,g⟩
   ·obtain⟨a,p⟩:=get (j:=0) (by have:=K (.inl z);omega)
    simp only[p];refine iW.bind (C p st st.ticks B) (mE _ _ _ _ _) (fun _ _=>gU.const _) fun v y c=>?_;obtain⟨I,R,q3⟩:=w1 z;unfold Nr;rw[bF I]
    cases hb:(f.res s).1 with
    |true=>
     have:=R hb f hf;rw[bF rfl,bF (by omega)];exact iW.const fun a s e=>by cases e;exact⟨c,by simp [g]⟩
    |false=>
     have:=q3 hb;have:=c.v;rw[aO (by simp),bF (by omega)];exact iW.const fun a s e=>by cases e;exact⟨⟨by simp [c.v],c.a,c.t⟩,g⟩
   ·obtain⟨I,R,q3⟩:=w2 G
    obtain⟨a,p⟩:=get (j:=0) (by omega);obtain⟨b,Y⟩:=get (j:=1) (by omega);simp only[p,Y];refine iW.bind (C p st st.ticks B) (mE _ _ _ _ _) (fun _ _=>gU.bind (mE _ _ _ _ _) fun _ _=>gU.const _) fun x y c=>?_;refine iW.bind (C Y y st.ticks c) (mE _ _ _ _ _) (fun _ _=>gU.const _) fun v J A=>?_;rw[bF I];have H:(f.res s).2.toNat<J.arrs.length:=by have:=A.a;omega
    unfold A9;rw[aC H];simp only;split
    ·simp only[bindR]
     exact iW.const fun a s e=>by cases e;exact⟨⟨A.v,by simp [Ho,A.a],A.t⟩,g⟩
    simp only[bindR];exact iW.const fun a s e=>by cases e
   ·obtain⟨a,p⟩:=get (j:=0) (by have:=K (.inr (.inl T));omega)
    simp only[p];refine iW.bind (C p st st.ticks B) (mE _ _ _ _ _) (fun _ _=>gU.const _) fun v y c=>?_;unfold Ge;split
    ·simp only[bindR]
     exact iW.const fun a s e=>by cases e
    simp only[bindR];exact iW.const fun a s e=>by cases e;exact⟨⟨c.v,c.a,c.t⟩,g⟩
   ·obtain⟨a,p⟩:=get (j:=0) (by have:=K (.inr (.inr (.inl U)));omega)
    simp only[p];refine iW.bind (C p st st.ticks B) (mE _ _ _ _ _) (fun _ _=>gU.ite (mL _ _ _ _ _) (mL _ _ _ _ _)) fun v y c=>?_;have:=c.t;have I:=(vW L p).2;have R:=a.sz_eq;exact iW.ite (fun _=>(a0 u (by omega) wu d y g c.v c.a (by have:=c.t;omega)).mono fun r s h=>⟨h.f.trans c.t,h.w⟩) fun _=>(a0 t (by omega) S d y g c.v c.a (by have:=c.t;omega)).mono fun r s h=>⟨h.f.trans c.t,h.w⟩
   ·obtain⟨a,p⟩:=get (j:=0) (by have:=K (.inr (.inr (.inr V)));omega)
    simp only[p];refine iW.succ (f:=fun n=>xT cx (n+1) f.res d a t st) ?_ fun n=>rfl;simp only[xT];refine iW.bind (P:=fun _ s=>s.vars.length=nv∧s.arrs.length=na∧st.ticks<s.ticks∧cx.fuel-s.ticks<M) (iW.const fun a s e=>?_) (gU.const _) (fun _ _=>gU.bind (mE _ _ _ _ _) fun _ _=>gU.ite (gU.const _) (gU.bind (mL _ _ _ _ _) fun r _=>?_)) fun _ y ⟨g1,g2,g3,g4⟩=>?_
    ·unfold lP at e
     split at e
     ·cases e
     cases e;exact⟨E,D,by simp,by simp only;omega⟩
    ·cases r.1 with
     |some v=>exact gU.const _
     |none=>exact mW _ _ _ _ _ _
    refine iW.bind (C p y y.ticks (Q y g1 g2)) (mE _ _ _ _ _) (fun _ _=>gU.ite (gU.const _) (gU.bind (mL _ _ _ _ _) fun r _=>?_)) fun x J c=>?_
    ·cases r.1 with
     |some v=>exact gU.const _
     |none=>exact mW _ _ _ _ _ _
    have a3:=c.t;refine iW.ite (fun _=>iW.const fun a s e=>by cases e;exact⟨c.trans (by omega),g⟩) fun _=>?_;refine iW.bind ((ihM (cx.fuel-J.ticks) (by omega) (lQ t+1)).2 t (by omega) S d J g c.v c.a (aZ _)) (mL _ _ _ _ _) (fun r _=>?_) fun r s3 A=>?_
    ·cases r.1 with
     |some v=>exact gU.const _
     |none=>exact mW _ _ _ _ _ _
    have a4:=A.f.t
    cases hr:r.1 with
    |some v=>exact iW.const fun a s e=>by cases e;exact⟨A.f.trans (by omega),A.w⟩
    |none=>
     have a1:Sm.sz (.mk 5 s [a] t [])≤(Sm.mk 5 s [a] t []).sz:=aZ _
     have:=(ihM (cx.fuel-s3.ticks) (by omega) (Sm.mk 5 s [a] t []).sz).1 (.mk 5 s [a] t []) a1 (by
      simp only[UQ,yY,Hg]
      exact⟨fun e=>absurd e (by decide),fun e=>absurd e (by decide),fun e=>absurd e (by decide),fun _=>by simp,⟨(vW L p).1,trivial⟩,S,trivial⟩) r.2 s3 A.w A.f.v A.f.a (aZ _)
     obtain⟨n,o,O,e2⟩:=this
     cases n with
     |zero=>simp [oW]at O
     |succ n=>
      simp [oW]at O;exact⟨n,o,O,fun r' s' e=>by have:=e2 r' s' e;exact⟨this.f.trans (by omega),this.w⟩⟩
   ·refine iW.bind (YA hf hb l L (w6 W) d st st.ticks g B) (mC _ _ _ _ _ _) (fun _ _=>gU.const _) fun v y c=>?_
    exact iW.const fun a s e=>by cases e;exact⟨c,g⟩
   cases H:l[0]? with
   |none=>exact iW.const fun a s e=>by cases e;exact⟨B,g⟩
   |some a=>
    simp only;refine iW.bind (C H st st.ticks B) (mE _ _ _ _ _) (fun _ _=>gU.const _) fun v y c=>?_;exact iW.const fun a s e=>by cases e;exact⟨c,g⟩
  refine⟨one, ?_⟩;intro l
  induction l with
  |nil=>
   intro _ _ d st g E D _;exact iW.succ (f:=fun _=>some (.val (none,d) st)) (iW.const fun a s e=>by cases e;exact⟨Q st E D,g⟩) fun n=>by simp only[nK]
  |cons e l ihl=>
   intro hs F d st g E D X;simp only[lQ]at hs;simp only[Hg]at F;refine iW.succ (f:=fun n=>nK cx (n+1) f.res d (e::l) st) ?_ fun n=>rfl;simp only[nK];refine iW.bind (one e (by omega) F.1 d st g E D X) (mS _ _ _ _ _) (fun r _=>?_) fun r y z=>?_
   ·cases r.1 with
    |some v=>exact gU.const _
    |none=>exact mL _ _ _ _ _
   have a2:=z.f.t
   cases hr:r.1 with
   |some v=>exact iW.const fun a s e=>by cases e;exact⟨z.f,z.w⟩
   |none=>
    exact(ihl (by omega) F.2 r.2 y z.w z.f.v z.f.a (by omega)).mono fun r s h=>⟨h.f.trans z.f.t,h.w⟩
end
theorem UC {cx:Cx} {nv na:Nat} (h: ∀i f,cx.funs[i]?=some f→Hg cx nv na i f.res f.body) (j:Nat):KQ cx nv na j:=by
 induction j using Nat.strongRecOn with
 |_ j ih=>
  intro f hf d st b c a;exact((XZ hf ih (cx.fuel-st.ticks) (lQ f.body+1)).2 f.body (by omega) (h j f hf) d st b c a (aZ _)).mono fun r s h=>h.f
def Cx.main (cx:Cx):Option Cf:=cx.funs[cx.funs.length- 1]?
def RS.init (nv:Nat) (sizes:List Nat):RS:=⟨List.replicate nv 0,sizes.map fun n=>List.replicate n 0,0,[],0⟩
def Ul {α:Type}:Rz α→Int×dE×Nat
 | .val _ s=>(1,s.out,s.ticks)
 | .fin e s=>(e,s.out,s.ticks)
def Nv (cx:Cx) (n nv:Nat) (sizes:List Nat):Option (Int×dE×Nat):=cx.main.bind fun f=>(nK cx n f.res (List.replicate f.words 0) f.body (RS.init nv sizes)).map Ul
theorem W7 {cx:Cx} {nv:Nat} {b:List Nat} (d:cx.funs≠[]) (h: ∀i f,cx.funs[i]?=some f→Hg cx nv b.length i f.res f.body): ∃n r,Nv cx n nv b=some r:=by
 have c:cx.funs.length- 1<cx.funs.length:=by
  cases hc:cx.funs with
  |nil=>exact absurd hc d
  |cons a l=>simp
 obtain⟨n,r,e,_⟩:=UC h (cx.funs.length- 1) _ (aC c) (List.replicate (cx.funs[cx.funs.length- 1]).words 0) (RS.init nv b) (by simp) (by simp [RS.init]) (by simp [RS.init]);refine⟨n,Ul r, ?_⟩;simp only[Nv,Cx.main,aC c,bX];rw[show nK cx n _ _ _ _=some r from e];rfl
inductive PV (rs:dE→Bool×Int) (st:RS):Ex→Int→Prop where
 |num {o m:Int} {s:dE} {l:List Ex}:PV rs st (.mk 1 o m s l) m
 |var {o m:Int} {s:dE} {l:List Ex} {v:Int} (h:Eh (rs s) [] st=some v):PV rs st (.mk 2 o m s l) v
 |idx {o m:Int} {s:dE} {a:Ex} {x v:Int} {l:List Int} (ha:PV rs st a x) (h0:0≤(rs s).2) (h1:st.arrs[(rs s).2.toNat]?=some l) (h3:l[x.toNat]?=some v):PV rs st (.mk 3 o m s [a]) v
 |op {o m:Int} {s:dE} {a b:Ex} {x y v:Int} (ha:PV rs st a x) (hb:PV rs st b y) (h:eP o x y=(v,0)):PV rs st (.mk 6 o m s [a,b]) v
 |neg {o m:Int} {s:dE} {a:Ex} {x v:Int} (ha:PV rs st a x) (h:(if x=0 then 1 else 0)=v):PV rs st (.mk 7 o m s [a]) v
theorem zN {cx:Cx} {n m:Nat} (a:n≤m) {rs ow e st r} (h:jZ cx n rs ow e st=some r):jZ cx m rs ow e st=some r:=by
 induction m with
 |zero=>obtain rfl:n=0:=by omega
        exact h
 |succ m ih=>
  rcases qD m n with c|c
  ·obtain rfl:n=m+1:=by omega
   exact h
  exact(Dm cx m).E _ _ _ _ _ (ih c)
theorem H8 {cx:Cx} {n m:Nat} (a:n≤m) {rs ow e st r} (h:nK cx n rs ow e st=some r):nK cx m rs ow e st=some r:=by
 induction m with
 |zero=>obtain rfl:n=0:=by omega
        exact h
 |succ m ih=>
  rcases qD m n with c|c
  ·obtain rfl:n=m+1:=by omega
   exact h
  exact(Dm cx m).L _ _ _ _ _ (ih c)
theorem PV.ev {rs:dE→Bool×Int} {st:RS} {e:Ex} {v:Int} (cx:Cx) (h:PV rs st e v): ∃n,jZ cx n rs [] e st=some (.val v st):=by
 induction h with
 |num=>exact⟨1,by simp [jZ]⟩
 |var h=>exact⟨1,by simp [jZ,h]⟩
 | @idx o m s a x v l ha h0 d h3 ih=>
   obtain⟨n,c⟩:=ih;have f:x.toNat<l.length:=(bD.1 h3).1;refine⟨n+1, ?_⟩;simp [jZ,c,bindR,h0,A9,d,f];exact(bD.1 h3).2
 | @op o m s a b x y v ha hb h iha ihb=>
   obtain⟨n,c⟩:=iha;obtain⟨k,g⟩:=ihb;refine⟨n+k+1, ?_⟩;have d:=zN (m:=n+k) (by omega) c;have f:=zN (m:=n+k) (by omega) g;simp [jZ,d,f,bindR,h]
 | @neg o m s a x v ha h ih=>
   obtain⟨n,c⟩:=ih;refine⟨n+1, ?_⟩;simp [jZ,c,bindR,h]
def Wp (cx:Cx) (rs:dE→Bool×Int) (l:List Sm) (st:RS) (P:RS→Prop):Prop:= ∃n st',nK cx n rs [] l st=some (.val (none,[]) st')∧P st'
section
variable {cx : Cx} {rs : dE → Bool × Int} {st : RS} {P : RS → Prop} {l : List Sm}
theorem Wp.nil (h:P st):Wp cx rs [] st P:=⟨1,st,by simp [nK],h⟩
theorem Wp.imp {Q:RS→Prop} (h:Wp cx rs l st Q) (c: ∀s,Q s→P s):Wp cx rs l st P:=by
 obtain⟨n,s,a,b⟩:=h;exact⟨n,s,a,c s b⟩
theorem Wp.one {s:Sm} {a:RS} (d: ∃n,oW cx n rs [] s st=some (.val (none,[]) a)) (h:Wp cx rs l a P):Wp cx rs (s::l) st P:=by
 obtain⟨n,b⟩:=d;obtain⟨k,i,g,f⟩:=h
 have j: ∀m,n≤m→oW cx m rs [] s st=some (.val (none,[]) a):=by
  intro m o
  induction m with
  |zero=>obtain rfl:n=0:=by omega
         exact b
  |succ m ih=>
   rcases qD m n with c|c
   ·obtain rfl:n=m+1:=by omega
    exact b
   exact(Dm cx m).S _ _ _ _ _ (ih c)
 refine⟨n+k+1,i, ?_,f⟩;have e:=H8 (m:=n+k) (by omega) g;simp [nK,j (n+k) (by omega),bindR,e]
theorem Wp.set {s:dE} {e:Ex} {t u:List Sm} {v i:Int} (f:PV rs st e v) (b:rs s=(false,i)) (a:0≤i) (c:i.toNat<st.vars.length) (h:Wp cx rs l {st with vars:=st.vars.set i.toNat v} P):Wp cx rs (.mk 1 s [e] t u::l) st P:=by
 obtain⟨n,d⟩:=f.ev cx;exact .one ⟨n+1,by simp [oW,d,bindR,Nr,b,a,c]⟩ h
theorem Wp.get {s:dE} {o m:Int} {s':dE} {l':List Ex} {t u:List Sm} {v i:Int} {a:RS} (c:yE cx st= .val v a) (d:rs s=(false,i)) (b:0≤i) (e:i.toNat<a.vars.length) (h:Wp cx rs l {a with vars:=a.vars.set i.toNat v} P):Wp cx rs (.mk 1 s [.mk 5 o m s' l'] t u::l) st P:=
 .one ⟨2,by simp [oW,jZ,c,bindR,Nr,d,b,e]⟩ h
theorem Wp.store {s:dE} {a e:Ex} {t u:List Sm} {x v:Int} {b:Bool} {i:Int} {arr:List Int} (A:PV rs st a x) (z:PV rs st e v) (j:rs s=(b,i)) (c:0≤i) (g:st.arrs[i.toNat]?=some arr) (p:x.toNat<arr.length) (h:Wp cx rs l (Ho i x.toNat v st) P):Wp cx rs (.mk 2 s [a,e] t u::l) st P:=by
 obtain⟨n,y⟩:=A.ev cx;obtain⟨k,o⟩:=z.ev cx;have d:=zN (m:=n+k) (by omega) y;have f:=zN (m:=n+k) (by omega) o;exact .one ⟨n+k+1,by simp [oW,d,f,bindR,j,c,A9,g,p]⟩ h
theorem Wp.put {s:dE} {e:Ex} {t u:List Sm} {v:Int} (b:PV rs st e v) (c:st.out.length<65536) (h:Wp cx rs l {st with out:=st.out++[UInt8.ofNat (IntKind.wrap .u8 v).toNat]} P):Wp cx rs (.mk 3 s [e] t u::l) st P:=by
 obtain⟨n,a⟩:=b.ev cx;have : ¬65536≤st.out.length:=by omega
 exact .one ⟨n+1,by simp [oW,a,bindR,Ge,this]⟩ h
theorem Wp.sub {s:Sm} {Q:RS→Prop} (c: ∃n a,oW cx n rs [] s st=some (.val (none,[]) a)∧Q a) (h: ∀b,Q b→Wp cx rs l b P):Wp cx rs (s::l) st P:=by
 obtain⟨n,a,d,e⟩:=c;exact .one ⟨n,d⟩ (h a e)
theorem Wp.cond (Q:RS→Prop) {s:dE} {e:Ex} {t:List Sm} {v:Int} (j:PV rs st e v) (d:v≠0→Wp cx rs t st Q) (f:v=0→Q st) (h: ∀b,Q b→Wp cx rs l b P):Wp cx rs (.mk 4 s [e] t []::l) st P:=by
 obtain⟨n,a⟩:=j.ev cx;refine .sub ?_ h;by_cases c:v=0
 ·exact⟨n+2,st,by simp [oW,zN (m:=n+1) (by omega) a,bindR,c,nK],f c⟩
 obtain⟨k,o,i,g⟩:=d c;exact⟨n+k+1,o,by simp [oW,zN (m:=n+k) (by omega) a,bindR,c,H8 (m:=n+k) (by omega) i],g⟩
def RS.tick (s:RS):RS:={s with ticks:=s.ticks+1}
theorem Wp.loop (I:Nat→RS→Prop) (N:Nat) {s:dE} {e:Ex} {t u:List Sm} (i:st.ticks<cx.fuel) (b:I 0 st.tick)
  (step: ∀k s,k<N→I k s→ ∃v,PV rs s e v∧v≠0∧Wp cx rs t s (fun f=>f.ticks<cx.fuel∧I (k+1) f.tick))
  (stop: ∀s,I N s→PV rs s e 0∧Wp cx rs l s P):Wp cx rs (.mk 5 s [e] t u::l) st P:=by
 have J: ∀j k,k+j=N→ ∀st:RS,st.ticks<cx.fuel→I k st.tick→ ∃n a,xT cx n rs [] e t st=some (.val (none,[]) a)∧I N a:=by
  intro j
  induction j with
  |zero=>
   intro k D st i b;obtain rfl:k=N:=by omega
   obtain⟨n,d⟩:=(stop _ b).1.ev cx;have d:jZ cx n rs [] e {st with ticks:=st.ticks+1}=some (.val 0 st.tick):=d;exact⟨n+1,st.tick,by simp [xT,lP,bindR,show ¬cx.fuel≤st.ticks by omega,d],b⟩
  |succ j ih=>
   intro k D st i b;obtain⟨v,G,H,m,o,E,C,A⟩:=step k _ (by omega) b;obtain⟨n,d⟩:=G.ev cx;obtain⟨q,a,p,B⟩:=ih (k+1) (by omega) o C A
   have K:xT cx (n+m+q) rs [] e t o=some (.val (none,[]) a):=by
    have : ∀r,q≤r→xT cx r rs [] e t o=some (.val (none,[]) a):=by
     intro r L
     induction r with
     |zero=>obtain rfl:q=0:=by omega
            exact p
     |succ r ihr=>
      rcases qD r q with c|c
      ·obtain rfl:q=r+1:=by omega
       exact p
      exact(Dm cx r).W _ _ _ _ _ _ (ihr c)
    exact this _ (by omega)
   refine⟨n+m+q+1,a, ?_,B⟩;have g:=zN (m:=n+m+q) (by omega) d;have x:=H8 (m:=n+m+q) (by omega) E;have g:jZ cx (n+m+q) rs [] e {st with ticks:=st.ticks+1}=some (.val v st.tick):=g;simp [xT,lP,bindR,show ¬cx.fuel≤st.ticks by omega,g,H,x,K]
 obtain⟨n,a,y,z⟩:=J N 0 (by omega) st i b;exact .sub ⟨n+1,a,by simp [oW,y],z⟩ fun f F=>(stop f F).2
end
abbrev gR (x:Int):Int:=IntKind.wrap .u32 x
def C6 (c:Int):Int:=
 if c=43 then 4 else if c=45 then 5 else if c=42 then 6 else if c=47 then 7 else if c=37 then 8 else if c=38 then 9 else if c=124 then 10 else if c=94 then 11 else if c=76 then 12 else if c=82 then 13 else if c=60 then 14 else if c=61 then 15
 else if c=33 then 1326579712 else if c=63 then 1997537280 else if c=64 then 1343357056 else if c=35 then 420483072 else if c=46 then 941621248 else if c=32 then 1645215744 else if c=69 then 908066816 else if c=36 then 1509949440 else 0
structure Zs where
 d:Int
 s:Int
 m:Int
def Gl (c:Int):Int:=if c<256 then C6 c else c
def Bg (c:Int):Int:=if Gl c=0 then 1125253120 else Gl c
def vF (c:Int):Int:=if Bg c<16 then gR (gR (Bg c *16777216)+537985026)else Bg c
def Vk (c:Int) (z:Zs):Int:=if gR (c- 48)<10 then gR (gR (z.m *10)+gR (c- 48))else z.m
def L6 (c:Int) (z:Zs):Int:=if c=32 then gR (vF c+Vk c z/65536)else vF c
def Nj (c:Int) (z:Zs):Int:=if c=32 then 0 else Vk c z
def A5 (c:Int) (z:Zs):Int:=if gR (c- 97)<26 then gR (z.s+c)else L6 c z
def BV (c:Int) (z:Zs):Int:=if gR (c- 97)<26 then 1880096768 else z.s
def A6 (c:Int) (z:Zs):Int:=if c=58 then 824180736 else BV c z
def Ni (q c:Int) (z:Zs):Int:=if c=87 then gR (1628438528+gR (q *4))else A5 c z
def CB (c:Int) (z:Zs):Int:=if c=32 then gR (17825792+Vk c z % 65536)else gR (269484032+z.d)
def U8 (c:Int) (z:Zs):Int:=if c=64 then 421531648 else CB c z
def zd (q c:Int) (z:Zs):Int:=gR (gR (z.d+Ni q c z/536870912)- 2)
def BZ (q c:Int) (z:Zs):Int:=if c=35 then 287375488 else gR (286261249+zd q c z)
def vT (q c:Int) (z:Zs):List Int:=[gR (270532609+z.d),U8 c z,Ni q c z % 536870912,BZ q c z]
def Bn (q c:Int) (z:Zs):Zs:=⟨zd q c z,A6 c z,Nj c z⟩
def iK:List Int→Nat→Zs→Zs×List Int
 |[],_,z=>(z,[])
 |c::T,q,z=>((iK T (q+1) (Bn q c z)).1,vT q c z++(iK T (q+1) (Bn q c z)).2)
theorem zU (A B:List Int): ∀(q:Nat) (z:Zs),iK (A++B) q z=((iK B (q+A.length) (iK A q z).1).1,(iK A q z).2++(iK B (q+A.length) (iK A q z).1).2):=by
 induction A with
 |nil=>intro q z;simp [iK]
 |cons c A ih=>
  intro q z;simp only[cU,iK,ih,aJ,bV];rw[show q+1+A.length=q+(A.length+1)by omega]
theorem U9 (A:List Int) (c:Int) (q:Nat) (z:Zs):iK (A++[c]) q z=(Bn (q+A.length:Nat) c (iK A q z).1,(iK A q z).2++vT (q+A.length:Nat) c (iK A q z).1):=by
 rw[zU];simp [iK]
def Q0 (c:UInt8) (p:List Int×Int):Option (List Int×Int):=
 if c=68∨c=73 then some (p.1++[p.2],p.1.length)
 else if c=69∨c=70 then
  (if 0≤p.2 then match p.1[p.2.toNat]? with
   |some x=>some ((p.1++[(c.toNat:Int)]).set p.2.toNat (857735172+4 *(p.1.length:Int)),x)
   |none=>none
  else none)
 else some (p.1++[(c.toNat:Int)],p.2)
def yC:dE→List Int×Int→Option (List Int×Int)
 |[],p=>some p
 |c::t,p=>(Q0 c p).bind (yC t)
theorem lV (a b:dE) (p:List Int×Int):yC (a++b) p=(yC a p).bind (yC b):=by
 induction a generalizing p with
 |nil=>rfl
 |cons c a ih=>
  simp only[cU,yC]
  cases Q0 c p with
  |none=>rfl
  |some p'=>simp only[bX,ih]
theorem NA {c:UInt8} {p p':List Int×Int} (h:Q0 c p=some p'):p'.1.length=p.1.length+1:=by
 unfold Q0 at h;split at h
 ·cases h;simp
 split at h
 ·split at h
  ·split at h
   ·cases h;simp
   cases h
  cases h
 cases h;simp
theorem P9 {t:dE} {p p':List Int×Int} (h:yC t p=some p'):p'.1.length=p.1.length+t.length:=by
 induction t generalizing p with
 |nil=>cases h;simp
 |cons c t ih=>
  simp only[yC,cJ]at h;obtain⟨p1,h1,h2⟩:=h;rw[ih h2,NA h1,aJ];omega
def UA (x:Int):dE:=[UInt8.ofNat (x % 256).toNat,UInt8.ofNat (x/256 % 256).toNat,UInt8.ofNat (x/65536 % 256).toNat,UInt8.ofNat (x/16777216 % 256).toNat]
def uZ:List Int→dE
 |[]=>[]
 |x::l=>UA x++uZ l
theorem Ur: ∀a b:List Int,uZ (a++b)=uZ a++uZ b
 |[],b=>rfl
 |x::a,b=>by simp only[cU,uZ,Ur a b,bV]
theorem Ha: ∀a:List Int,(uZ a).length=4 *a.length
 |[]=>rfl
 |x::a=>by simp only[uZ,UA,aB,Ha a,aJ,aT];omega
def PL:Zs:=⟨0,1880096768,0⟩
def Tv (T:List Int):List Int:=[1145390419,4 *(T.length:Int),4224]++(iK T 0 PL).2
theorem vU: ∀(T:List Int) (q:Nat) (z:Zs),(iK T q z).2.length=4 *T.length
 |[],_,_=>rfl
 |c::T,q,z=>by simp only[iK,aB,vU T,vT,aJ,aT];omega
theorem J2 (a b:Int):eP 4 a b=(gR (a+b),0):=by simp [eP]
theorem LC (a b:Int):eP 5 a b=(gR (a-b),0):=by simp [eP]
theorem UL (a b:Int):eP 6 a b=(gR (a *b),0):=by simp [eP]
theorem Dq (a b:Int):eP 14 a b=(if a<b then 1 else 0,0):=by simp [eP]
theorem Uy (a b:Int):eP 15 a b=(if a=b then 1 else 0,0):=by simp [eP]
theorem UM (a:Int):eP 13 a 8=(a/256,0):=by simp [eP,pF]
theorem U7 (a:Int):eP 13 a 16=(a/65536,0):=by simp [eP,pF]
theorem OU (a:Int):eP 13 a 24=(a/16777216,0):=by simp [eP,pF]
theorem OT (a:Int):eP 13 a 29=(a/536870912,0):=by simp [eP,pF]
theorem ZA {a:Int} (h:0≤a∧a<4294967296) (k:Nat) (t:k≤31) (b:Int) (p:b=((2^k- 1:Nat):Int)):eP 9 a b=(a % ((2^k:Nat):Int),0):=by
 obtain⟨u,rfl⟩: ∃u:Nat,a=u:=⟨a.toNat,by omega⟩;subst p;have A:u<2^32:=by omega
 have y:(2:Nat)^k≤2^31:=Nat.pow_le_pow_right (by decide) t;have j:0<(2:Nat)^k:=Nat.pow_pos (by decide);have e:(BitVec.ofInt 32 (u:Int)).toNat=u:=by rw[BitVec.ofInt_natCast,BitVec.toNat_ofNat];omega
 have f:(BitVec.ofInt 32 ((2^k- 1:Nat):Int)).toNat=2^k- 1:=by rw[BitVec.ofInt_natCast,BitVec.toNat_ofNat];omega
 have g:(BitVec.ofInt 32 (u:Int)&&&BitVec.ofInt 32 ((2^k- 1:Nat):Int)).toNat=u % 2^k:=by
  rw[BitVec.toNat_and,e,f,Nat.and_two_pow_sub_one_eq_mod]
 have z:u % 2^k<2^k:=sF _ j;unfold eP;rw[aO (by decide),aO (by decide),aO (by decide),aO (by decide),aO (by decide),bF rfl,g];rw[dX _ (by omega)];simp
theorem UK {a:Int} (h:0≤a∧a<4294967296):eP 9 a 65535=(a % 65536,0):=ZA h 16 (by decide) _ rfl
theorem UI {a:Int} (h:0≤a∧a<4294967296):eP 9 a 536870911=(a % 536870912,0):=ZA h 29 (by decide) _ rfl
theorem Ll (x:Int):0≤gR x∧gR x<4294967296:=by
 show 0≤IntKind.wrap .u32 x∧IntKind.wrap .u32 x<_;rw[IntKind.wrap_u32];omega
theorem eL {x:Int} (h:0≤x∧x<4294967296):gR x=x:=dX _ (by omega)
def jX (c n o x s m v d i q:Int) (arr:List Int) (rd:Nat) (out:dE) (tk:Nat):RS:=⟨[c,n,o,x,s,m,v,d,i,q],[arr],rd,out,tk⟩
structure pD (rs:dE→Bool×Int):Prop where
 c:rs [99]=(false,0)
 n:rs [110]=(false,1)
 o:rs [111]=(false,2)
 x:rs [120]=(false,3)
 s:rs [115]=(false,4)
 m:rs [109]=(false,5)
 v:rs [118]=(false,6)
 d:rs [100]=(false,7)
 i:rs [105]=(false,8)
 q:rs [113]=(false,9)
 t:(rs [116]).2=0
section
variable {cx : Cx} {rs : dE → Bool × Int} {P : RS → Prop} {l : List Sm} {c n o x s m v d i q : Int} {arr : List Int} {rd : Nat} {out : dE} {tk : Nat}
theorem pD.vc (H:pD rs):PV rs (jX c n o x s m v d i q arr rd out tk) (.mk 2 0 0 [99] []) c:= .var (by rw[H.c];rfl)
theorem pD.vn (H:pD rs):PV rs (jX c n o x s m v d i q arr rd out tk) (.mk 2 0 0 [110] []) n:= .var (by rw[H.n];rfl)
theorem pD.vo (H:pD rs):PV rs (jX c n o x s m v d i q arr rd out tk) (.mk 2 0 0 [111] []) o:= .var (by rw[H.o];rfl)
theorem pD.vx (H:pD rs):PV rs (jX c n o x s m v d i q arr rd out tk) (.mk 2 0 0 [120] []) x:= .var (by rw[H.x];rfl)
theorem pD.vs (H:pD rs):PV rs (jX c n o x s m v d i q arr rd out tk) (.mk 2 0 0 [115] []) s:= .var (by rw[H.s];rfl)
theorem pD.vm (H:pD rs):PV rs (jX c n o x s m v d i q arr rd out tk) (.mk 2 0 0 [109] []) m:= .var (by rw[H.m];rfl)
theorem pD.vv (H:pD rs):PV rs (jX c n o x s m v d i q arr rd out tk) (.mk 2 0 0 [118] []) v:= .var (by rw[H.v];rfl)
theorem pD.vd (H:pD rs):PV rs (jX c n o x s m v d i q arr rd out tk) (.mk 2 0 0 [100] []) d:= .var (by rw[H.d];rfl)
theorem pD.vi (H:pD rs):PV rs (jX c n o x s m v d i q arr rd out tk) (.mk 2 0 0 [105] []) i:= .var (by rw[H.i];rfl)
theorem pD.vq (H:pD rs):PV rs (jX c n o x s m v d i q arr rd out tk) (.mk 2 0 0 [113] []) q:= .var (by rw[H.q];rfl)
theorem pD.wc (H:pD rs) {e:Ex} {w:Int} (a:PV rs (jX c n o x s m v d i q arr rd out tk) e w) (h:Wp cx rs l (jX w n o x s m v d i q arr rd out tk) P):Wp cx rs (.mk 1 [99] [e] [] []::l) (jX c n o x s m v d i q arr rd out tk) P:= .set a H.c (by decide) (by show _<10;decide) h
theorem pD.wn (H:pD rs) {e:Ex} {w:Int} (a:PV rs (jX c n o x s m v d i q arr rd out tk) e w) (h:Wp cx rs l (jX c w o x s m v d i q arr rd out tk) P):Wp cx rs (.mk 1 [110] [e] [] []::l) (jX c n o x s m v d i q arr rd out tk) P:= .set a H.n (by decide) (by show _<10;decide) h
theorem pD.wo (H:pD rs) {e:Ex} {w:Int} (a:PV rs (jX c n o x s m v d i q arr rd out tk) e w) (h:Wp cx rs l (jX c n w x s m v d i q arr rd out tk) P):Wp cx rs (.mk 1 [111] [e] [] []::l) (jX c n o x s m v d i q arr rd out tk) P:= .set a H.o (by decide) (by show _<10;decide) h
theorem pD.wx (H:pD rs) {e:Ex} {w:Int} (a:PV rs (jX c n o x s m v d i q arr rd out tk) e w) (h:Wp cx rs l (jX c n o w s m v d i q arr rd out tk) P):Wp cx rs (.mk 1 [120] [e] [] []::l) (jX c n o x s m v d i q arr rd out tk) P:= .set a H.x (by decide) (by show _<10;decide) h
theorem pD.ws (H:pD rs) {e:Ex} {w:Int} (a:PV rs (jX c n o x s m v d i q arr rd out tk) e w) (h:Wp cx rs l (jX c n o x w m v d i q arr rd out tk) P):Wp cx rs (.mk 1 [115] [e] [] []::l) (jX c n o x s m v d i q arr rd out tk) P:= .set a H.s (by decide) (by show _<10;decide) h
theorem pD.wm (H:pD rs) {e:Ex} {w:Int} (a:PV rs (jX c n o x s m v d i q arr rd out tk) e w) (h:Wp cx rs l (jX c n o x s w v d i q arr rd out tk) P):Wp cx rs (.mk 1 [109] [e] [] []::l) (jX c n o x s m v d i q arr rd out tk) P:= .set a H.m (by decide) (by show _<10;decide) h
theorem pD.wv (H:pD rs) {e:Ex} {w:Int} (a:PV rs (jX c n o x s m v d i q arr rd out tk) e w) (h:Wp cx rs l (jX c n o x s m w d i q arr rd out tk) P):Wp cx rs (.mk 1 [118] [e] [] []::l) (jX c n o x s m v d i q arr rd out tk) P:= .set a H.v (by decide) (by show _<10;decide) h
theorem pD.wd (H:pD rs) {e:Ex} {w:Int} (a:PV rs (jX c n o x s m v d i q arr rd out tk) e w) (h:Wp cx rs l (jX c n o x s m v w i q arr rd out tk) P):Wp cx rs (.mk 1 [100] [e] [] []::l) (jX c n o x s m v d i q arr rd out tk) P:= .set a H.d (by decide) (by show _<10;decide) h
theorem pD.wi (H:pD rs) {e:Ex} {w:Int} (a:PV rs (jX c n o x s m v d i q arr rd out tk) e w) (h:Wp cx rs l (jX c n o x s m v d w q arr rd out tk) P):Wp cx rs (.mk 1 [105] [e] [] []::l) (jX c n o x s m v d i q arr rd out tk) P:= .set a H.i (by decide) (by show _<10;decide) h
theorem pD.wq (H:pD rs) {e:Ex} {w:Int} (a:PV rs (jX c n o x s m v d i q arr rd out tk) e w) (h:Wp cx rs l (jX c n o x s m v d i w arr rd out tk) P):Wp cx rs (.mk 1 [113] [e] [] []::l) (jX c n o x s m v d i q arr rd out tk) P:= .set a H.q (by decide) (by show _<10;decide) h
theorem pD.it (H:pD rs) {a:Ex} {y w:Int} (e:PV rs (jX c n o x s m v d i q arr rd out tk) a y) (b:arr[y.toNat]?=some w):PV rs (jX c n o x s m v d i q arr rd out tk) (.mk 3 0 0 [116] [a]) w:= .idx e (by rw[H.t];decide) (by rw[H.t];rfl) b
theorem pD.st (H:pD rs) {a e:Ex} {y w:Int} (j:PV rs (jX c n o x s m v d i q arr rd out tk) a y) (g:PV rs (jX c n o x s m v d i q arr rd out tk) e w) (f:y.toNat<arr.length) (h:Wp cx rs l (jX c n o x s m v d i q (arr.set y.toNat w) rd out tk) P):Wp cx rs (.mk 2 [116] [a,e] [] []::l) (jX c n o x s m v d i q arr rd out tk) P:=
 .store (b:=(rs [116]).1) (i:=0) j g (by rw[←H.t]) (Int.le_refl 0) rfl f h
end
def HL:List Sm:=[.mk 2 [116] [.mk 1 0 3043 [] [], .mk 1 0 4 [] []] [] [],
 .mk 2 [116] [.mk 1 0 3045 [] [], .mk 1 0 5 [] []] [] [],
 .mk 2 [116] [.mk 1 0 3042 [] [], .mk 1 0 6 [] []] [] [],
 .mk 2 [116] [.mk 1 0 3047 [] [], .mk 1 0 7 [] []] [] [],
 .mk 2 [116] [.mk 1 0 3037 [] [], .mk 1 0 8 [] []] [] [],
 .mk 2 [116] [.mk 1 0 3038 [] [], .mk 1 0 9 [] []] [] [],
 .mk 2 [116] [.mk 1 0 3124 [] [], .mk 1 0 10 [] []] [] [],
 .mk 2 [116] [.mk 1 0 3094 [] [], .mk 1 0 11 [] []] [] [],
 .mk 2 [116] [.mk 1 0 3076 [] [], .mk 1 0 12 [] []] [] [],
 .mk 2 [116] [.mk 1 0 3082 [] [], .mk 1 0 13 [] []] [] [],
 .mk 2 [116] [.mk 1 0 3060 [] [], .mk 1 0 14 [] []] [] [],
 .mk 2 [116] [.mk 1 0 3061 [] [], .mk 1 0 15 [] []] [] [],
 .mk 2 [116] [.mk 1 0 3033 [] [], .mk 1 0 1326579712 [] []] [] [],
 .mk 2 [116] [.mk 1 0 3063 [] [], .mk 1 0 1997537280 [] []] [] [],
 .mk 2 [116] [.mk 1 0 3064 [] [], .mk 1 0 1343357056 [] []] [] [],
 .mk 2 [116] [.mk 1 0 3035 [] [], .mk 1 0 420483072 [] []] [] [],
 .mk 2 [116] [.mk 1 0 3046 [] [], .mk 1 0 941621248 [] []] [] [],
 .mk 2 [116] [.mk 1 0 3032 [] [], .mk 1 0 1645215744 [] []] [] [],
 .mk 2 [116] [.mk 1 0 3069 [] [], .mk 1 0 908066816 [] []] [] [],
 .mk 2 [116] [.mk 1 0 3036 [] [], .mk 1 0 1509949440 [] []] [] []]
def D9:List Sm:=[.mk 2 [116] [.mk 2 0 0 [110] [], .mk 2 0 0 [99] []] [] [],
 .mk 4 [] [.mk 6 15 0 [] [.mk 6 6 0 [] [.mk 6 5 0 [] [.mk 2 0 0 [99] [], .mk 1 0 68 [] []], .mk 6 5 0 [] [.mk 2 0 0 [99] [], .mk 1 0 73 [] []]], .mk 1 0 0 [] []]] [.mk 2 [116] [.mk 2 0 0 [110] [], .mk 2 0 0 [111] []] [] [], .mk 1 [111] [.mk 2 0 0 [110] []] [] []] [],
 .mk 4 [] [.mk 6 14 0 [] [.mk 6 5 0 [] [.mk 2 0 0 [99] [], .mk 1 0 69 [] []], .mk 1 0 2 [] []]] [.mk 1 [120] [.mk 3 0 0 [116] [.mk 2 0 0 [111] []]] [] [], .mk 2 [116] [.mk 2 0 0 [111] [], .mk 6 4 0 [] [.mk 1 0 857735172 [] [], .mk 6 6 0 [] [.mk 2 0 0 [110] [], .mk 1 0 4 [] []]]] [] [], .mk 1 [111] [.mk 2 0 0 [120] []] [] []] [],
 .mk 1 [110] [.mk 6 4 0 [] [.mk 2 0 0 [110] [], .mk 1 0 1 [] []]] [] [],
 .mk 1 [99] [.mk 5 0 0 [] []] [] []]
def VX:List Sm:=[.mk 2 [116] [.mk 1 0 4001 [] [], .mk 1 0 1145390419 [] []] [] [],
 .mk 2 [116] [.mk 1 0 4002 [] [], .mk 6 6 0 [] [.mk 2 0 0 [110] [], .mk 1 0 4 [] []]] [] [],
 .mk 2 [116] [.mk 1 0 4003 [] [], .mk 1 0 4224 [] []] [] [],
 .mk 1 [105] [.mk 1 0 4001 [] []] [] [],
 .mk 1 [115] [.mk 1 0 1880096768 [] []] [] []]
def Gt:List Sm:=[.mk 1 [120] [.mk 3 0 0 [116] [.mk 2 0 0 [105] []]] [] [],
 .mk 3 [] [.mk 2 0 0 [120] []] [] [],
 .mk 3 [] [.mk 6 13 0 [] [.mk 2 0 0 [120] [], .mk 1 0 8 [] []]] [] [],
 .mk 3 [] [.mk 6 13 0 [] [.mk 2 0 0 [120] [], .mk 1 0 16 [] []]] [] [],
 .mk 3 [] [.mk 6 13 0 [] [.mk 2 0 0 [120] [], .mk 1 0 24 [] []]] [] [],
 .mk 1 [105] [.mk 6 4 0 [] [.mk 2 0 0 [105] [], .mk 1 0 1 [] []]] [] []]
def Af:List Sm:=[.mk 1 [99] [.mk 3 0 0 [116] [.mk 2 0 0 [113] []]] [] [],
 .mk 1 [118] [.mk 2 0 0 [99] []] [] [],
 .mk 4 [] [.mk 6 14 0 [] [.mk 2 0 0 [99] [], .mk 1 0 256 [] []]] [.mk 1 [118] [.mk 3 0 0 [116] [.mk 6 4 0 [] [.mk 2 0 0 [99] [], .mk 1 0 3000 [] []]]] [] []] [],
 .mk 4 [] [.mk 6 15 0 [] [.mk 2 0 0 [118] [], .mk 1 0 0 [] []]] [.mk 1 [118] [.mk 1 0 1125253120 [] []] [] []] [],
 .mk 4 [] [.mk 6 14 0 [] [.mk 2 0 0 [118] [], .mk 1 0 16 [] []]] [.mk 1 [118] [.mk 6 4 0 [] [.mk 6 6 0 [] [.mk 2 0 0 [118] [], .mk 1 0 16777216 [] []], .mk 1 0 537985026 [] []]] [] []] [],
 .mk 2 [116] [.mk 1 0 4000 [] [], .mk 6 4 0 [] [.mk 1 0 270532609 [] [], .mk 2 0 0 [100] []]] [] [],
 .mk 2 [116] [.mk 1 0 4001 [] [], .mk 6 4 0 [] [.mk 1 0 269484032 [] [], .mk 2 0 0 [100] []]] [] [],
 .mk 4 [] [.mk 6 14 0 [] [.mk 6 5 0 [] [.mk 2 0 0 [99] [], .mk 1 0 48 [] []], .mk 1 0 10 [] []]] [.mk 1 [109] [.mk 6 4 0 [] [.mk 6 6 0 [] [.mk 2 0 0 [109] [], .mk 1 0 10 [] []], .mk 6 5 0 [] [.mk 2 0 0 [99] [], .mk 1 0 48 [] []]]] [] []] [],
 .mk 4 [] [.mk 6 15 0 [] [.mk 2 0 0 [99] [], .mk 1 0 32 [] []]] [.mk 2 [116] [.mk 1 0 4001 [] [], .mk 6 4 0 [] [.mk 1 0 17825792 [] [], .mk 6 9 0 [] [.mk 2 0 0 [109] [], .mk 1 0 65535 [] []]]] [] [], .mk 1 [118] [.mk 6 4 0 [] [.mk 2 0 0 [118] [], .mk 6 13 0 [] [.mk 2 0 0 [109] [], .mk 1 0 16 [] []]]] [] [], .mk 1 [109] [.mk 1 0 0 [] []] [] []] [],
 .mk 4 [] [.mk 6 14 0 [] [.mk 6 5 0 [] [.mk 2 0 0 [99] [], .mk 1 0 97 [] []], .mk 1 0 26 [] []]] [.mk 1 [118] [.mk 6 4 0 [] [.mk 2 0 0 [115] [], .mk 2 0 0 [99] []]] [] [], .mk 1 [115] [.mk 1 0 1880096768 [] []] [] []] [],
 .mk 4 [] [.mk 6 15 0 [] [.mk 2 0 0 [99] [], .mk 1 0 58 [] []]] [.mk 1 [115] [.mk 1 0 824180736 [] []] [] []] [],
 .mk 4 [] [.mk 6 15 0 [] [.mk 2 0 0 [99] [], .mk 1 0 64 [] []]] [.mk 2 [116] [.mk 1 0 4001 [] [], .mk 1 0 421531648 [] []] [] []] [],
 .mk 4 [] [.mk 6 15 0 [] [.mk 2 0 0 [99] [], .mk 1 0 87 [] []]] [.mk 1 [118] [.mk 6 4 0 [] [.mk 1 0 1628438528 [] [], .mk 6 6 0 [] [.mk 2 0 0 [113] [], .mk 1 0 4 [] []]]] [] []] [],
 .mk 2 [116] [.mk 1 0 4002 [] [], .mk 6 9 0 [] [.mk 2 0 0 [118] [], .mk 1 0 536870911 [] []]] [] [],
 .mk 1 [100] [.mk 6 5 0 [] [.mk 6 4 0 [] [.mk 2 0 0 [100] [], .mk 6 13 0 [] [.mk 2 0 0 [118] [], .mk 1 0 29 [] []]], .mk 1 0 2 [] []]] [] [],
 .mk 2 [116] [.mk 1 0 4003 [] [], .mk 6 4 0 [] [.mk 1 0 286261249 [] [], .mk 2 0 0 [100] []]] [] [],
 .mk 4 [] [.mk 6 15 0 [] [.mk 2 0 0 [99] [], .mk 1 0 35 [] []]] [.mk 2 [116] [.mk 1 0 4003 [] [], .mk 1 0 287375488 [] []] [] []] [],
 .mk 1 [105] [.mk 1 0 4000 [] []] [] [],
 .mk 1 [113] [.mk 6 4 0 [] [.mk 2 0 0 [113] [], .mk 1 0 1 [] []]] [] []]
def yK:List Sm:=HL++(.mk 1 [99] [.mk 5 0 0 [] []] [] []:: .mk 5 [] [.mk 6 14 0 [] [.mk 2 0 0 [99] [], .mk 1 0 256 [] []]] D9 []::(VX++[.mk 5 [] [.mk 7 0 0 [] [.mk 6 14 0 [] [.mk 2 0 0 [110] [], .mk 2 0 0 [113] []]]] (.mk 5 [] [.mk 6 14 0 [] [.mk 2 0 0 [105] [], .mk 1 0 4004 [] []]] Gt []::Af) []]))
def qQ:Fu:=⟨[109,97,105,110],[],[],false,yK⟩
def fW:Pg:=⟨[[99],[110],[111],[120],[115],[109],[118],[100],[105],[113]],[⟨[116],4096⟩],[qQ]⟩
theorem Wp.yes {cx:Cx} {rs:dE→Bool×Int} {st:RS} {P:RS→Prop} {l:List Sm} {s:dE} {e:Ex} {t:List Sm} {v:Int} (a:PV rs st e v) (b:v≠0) (h:Wp cx rs t st (fun f=>Wp cx rs l f P)):Wp cx rs (.mk 4 s [e] t []::l) st P:= .cond _ a (fun _=>h) (fun c=>absurd c b) fun _ h=>h
theorem Wp.no {cx:Cx} {rs:dE→Bool×Int} {st:RS} {P:RS→Prop} {l:List Sm} {s:dE} {e:Ex} {t:List Sm} {v:Int} (a:PV rs st e v) (b:v=0) (h:Wp cx rs l st P):Wp cx rs (.mk 4 s [e] t []::l) st P:= .cond (fun f=>Wp cx rs l f P) a (fun c=>absurd b c) (fun _=>h) fun _ h=>h
def AI:List (Nat×Int)→Nat→Int→Int
 |[],_,x=>x
 |(i,v)::L,j,x=>AI L j (if i=j then v else x)
def kN (L:List (Nat×Int)) (a:List Int):List Int:=L.foldl (fun a p=>a.set p.1 p.2) a
theorem Il: ∀(L:List (Nat×Int)) (a:List Int),(kN L a).length=a.length
 |[],_=>rfl
 |p::L,a=>by show(kN L (a.set p.1 p.2)).length=_;rw[Il L,dK]
theorem Im: ∀(L:List (Nat×Int)) (a:List Int) (j:Nat) (x:Int),a[j]?=some x→(kN L a)[j]?=some (AI L j x)
 |[],_,_,_,h=>h
 |(i,v)::L,a,j,x,h=>by
  show(kN L (a.set i v))[j]?=_;rw[AI];refine Im L _ j _ ?_;have b:=(bD.1 h).1;rw[hJ];by_cases c:i=j
  ·subst c;simp [b]
  simp [c,h]
theorem Yi: ∀(L:List (Nat×Int)) (j:Nat) (x:Int),(∀p∈L,p.1≠j)→AI L j x=x
 |[],_,_,_=>rfl
 |(i,v)::L,j,x,h=>by
  rw[AI,aO (h (i,v) (dN)),Yi L j x fun p a=>h p (eR _ a)]
def GI:List (Nat×Int):=[(3043,4),(3045,5),(3042,6),(3047,7),(3037,8),(3038,9),(3124,10),(3094,11),(3076,12),(3082,13),(3060,14),(3061,15),(3033,1326579712),(3063,1997537280),(3064,1343357056),(3035,420483072),(3046,941621248),(3032,1645215744),(3069,908066816),(3036,1509949440)]
structure AT (arr T:List Int):Prop where
 len:arr.length=4096
 tl:T.length≤2600
 eq: ∀j,j<T.length→arr[j]?=T[j]?
 z: ∀j,T.length≤j→j<3000→arr[j]?=some 0
 tab: ∀c:Nat,c<256→arr[3000+c]?=some (C6 c)
def J1:List Int:=kN GI (List.replicate 4096 0)
theorem OR:AT J1 []:=by
 have b: ∀j,j<4096→(List.replicate 4096 (0:Int))[j]?=some 0:=fun j a=>by rw[rC,bF a]
 refine⟨by rw[J1,Il,fG],by simp,fun j a=>by simp at a,fun j _ a=>?_,fun c e=>?_⟩
 ·rw[J1,Im GI _ j 0 (b j (by omega)),Yi]
  intro p f;have : ∀p∈GI,3000≤p.1:=by decide
  have:=this p f;omega
 rw[J1,Im GI _ _ 0 (b _ (by omega))];have : ∀c:Nat,c<256→AI GI (3000+c) 0=C6 c:=by decide+kernel
 rw[this c e]
theorem AT.push {arr T:List Int} (h:AT arr T) (k:T.length<2600) (c:Int):AT (arr.set T.length c) (T++[c]):=by
 have p:=h.len;refine⟨by rw[dK,h.len],by rw[aB,bW];omega,fun j g=>?_,fun j a b=>?_,fun c f=>?_⟩
 ·rw[aB,bW]at g
  rw[hJ];by_cases e:T.length=j
  ·subst e;simp;omega
  rw[aO e,h.eq j (by omega),fC (by omega)]
 ·rw[aB,bW]at a
  rw[hJ,aO (by omega),h.z j (by omega) b]
 rw[hJ,aO (by omega),h.tab c f]
theorem AT.set {arr T:List Int} (h:AT arr T) {o:Nat} (p:o<T.length) (v:Int):AT (arr.set o v) (T.set o v):=by
 have k:=h.len;have t:=h.tl;refine⟨by rw[dK,h.len],by rw[dK];exact h.tl,fun j a=>?_,fun j b f=>?_,fun c g=>?_⟩
 ·rw[dK]at a
  rw[hJ,hJ];by_cases e:o=j
  ·subst e;simp [a];omega
  rw[aO e,aO e,h.eq j a]
 ·rw[dK]at b
  rw[hJ,aO (by omega),h.z j b f]
 rw[hJ,aO (by omega),h.tab c g]
theorem HK {cx:Cx} {rs:dE→Bool×Int} (H:pD rs) {P:RS→Prop} {l:List Sm} {c n o x s m v d i q:Int} {rd:Nat} {out:dE} {tk:Nat} (h:Wp cx rs l (jX c n o x s m v d i q J1 rd out tk) P):Wp cx rs (HL++l) (jX c n o x s m v d i q (List.replicate 4096 0) rd out tk) P:=by
 unfold HL;simp only[cU,cC];have a: ∀(L:List (Nat×Int)) (j:Nat),j<4096→j<(kN L (List.replicate 4096 0)).length:=fun L j b=>by rw[Il,fG];exact b
 refine H.st (arr:=kN [] (List.replicate 4096 0)) .num .num (by exact a _ 3043 (by decide)) ?_;show Wp cx rs _ (jX c n o x s m v d i q (kN [(3043,4)] (List.replicate 4096 0)) rd out tk) P;refine H.st (arr:=kN [(3043,4)] (List.replicate 4096 0)) .num .num (by exact a _ 3045 (by decide)) ?_;show Wp cx rs _ (jX c n o x s m v d i q (kN [(3043,4),(3045,5)] (List.replicate 4096 0)) rd out tk) P;refine H.st (arr:=kN [(3043,4),(3045,5)] (List.replicate 4096 0)) .num .num (by exact a _ 3042 (by decide)) ?_;show Wp cx rs _ (jX c n o x s m v d i q (kN [(3043,4),(3045,5),(3042,6)] (List.replicate 4096 0)) rd out tk) P;refine H.st (arr:=kN [(3043,4),(3045,5),(3042,6)] (List.replicate 4096 0)) .num .num (by exact a _ 3047 (by decide)) ?_;show Wp cx rs _ (jX c n o x s m v d i q (kN [(3043,4),(3045,5),(3042,6),(3047,7)] (List.replicate 4096 0)) rd out tk) P;refine H.st (arr:=kN [(3043,4),(3045,5),(3042,6),(3047,7)] (List.replicate 4096 0)) .num .num (by exact a _ 3037 (by decide)) ?_;show Wp cx rs _ (jX c n o x s m v d i q (kN [(3043,4),(3045,5),(3042,6),(3047,7),(3037,8)] (List.replicate 4096 0)) rd out tk) P;refine H.st (arr:=kN [(3043,4),(3045,5),(3042,6),(3047,7),(3037,8)] (List.replicate 4096 0)) .num .num (by exact a _ 3038 (by decide)) ?_;show Wp cx rs _ (jX c n o x s m v d i q (kN [(3043,4),(3045,5),(3042,6),(3047,7),(3037,8),(3038,9)] (List.replicate 4096 0)) rd out tk) P;refine H.st (arr:=kN [(3043,4),(3045,5),(3042,6),(3047,7),(3037,8),(3038,9)] (List.replicate 4096 0)) .num .num (by exact a _ 3124 (by decide)) ?_;show Wp cx rs _ (jX c n o x s m v d i q (kN [(3043,4),(3045,5),(3042,6),(3047,7),(3037,8),(3038,9),(3124,10)] (List.replicate 4096 0)) rd out tk) P;refine H.st (arr:=kN [(3043,4),(3045,5),(3042,6),(3047,7),(3037,8),(3038,9),(3124,10)] (List.replicate 4096 0)) .num .num (by exact a _ 3094 (by decide)) ?_;show Wp cx rs _ (jX c n o x s m v d i q (kN [(3043,4),(3045,5),(3042,6),(3047,7),(3037,8),(3038,9),(3124,10),(3094,11)] (List.replicate 4096 0)) rd out tk) P;refine H.st (arr:=kN [(3043,4),(3045,5),(3042,6),(3047,7),(3037,8),(3038,9),(3124,10),(3094,11)] (List.replicate 4096 0)) .num .num (by exact a _ 3076 (by decide)) ?_;show Wp cx rs _ (jX c n o x s m v d i q (kN [(3043,4),(3045,5),(3042,6),(3047,7),(3037,8),(3038,9),(3124,10),(3094,11),(3076,12)] (List.replicate 4096 0)) rd out tk) P;refine H.st (arr:=kN [(3043,4),(3045,5),(3042,6),(3047,7),(3037,8),(3038,9),(3124,10),(3094,11),(3076,12)] (List.replicate 4096 0)) .num .num (by exact a _ 3082 (by decide)) ?_;show Wp cx rs _ (jX c n o x s m v d i q (kN [(3043,4),(3045,5),(3042,6),(3047,7),(3037,8),(3038,9),(3124,10),(3094,11),(3076,12),(3082,13)] (List.replicate 4096 0)) rd out tk) P;refine H.st (arr:=kN [(3043,4),(3045,5),(3042,6),(3047,7),(3037,8),(3038,9),(3124,10),(3094,11),(3076,12),(3082,13)] (List.replicate 4096 0)) .num .num (by exact a _ 3060 (by decide)) ?_;show Wp cx rs _ (jX c n o x s m v d i q (kN [(3043,4),(3045,5),(3042,6),(3047,7),(3037,8),(3038,9),(3124,10),(3094,11),(3076,12),(3082,13),(3060,14)] (List.replicate 4096 0)) rd out tk) P;refine H.st (arr:=kN [(3043,4),(3045,5),(3042,6),(3047,7),(3037,8),(3038,9),(3124,10),(3094,11),(3076,12),(3082,13),(3060,14)] (List.replicate 4096 0)) .num .num (by exact a _ 3061 (by decide)) ?_;show Wp cx rs _ (jX c n o x s m v d i q (kN [(3043,4),(3045,5),(3042,6),(3047,7),(3037,8),(3038,9),(3124,10),(3094,11),(3076,12),(3082,13),(3060,14),(3061,15)] (List.replicate 4096 0)) rd out tk) P;refine H.st (arr:=kN [(3043,4),(3045,5),(3042,6),(3047,7),(3037,8),(3038,9),(3124,10),(3094,11),(3076,12),(3082,13),(3060,14),(3061,15)] (List.replicate 4096 0)) .num .num (by exact a _ 3033 (by decide)) ?_;show Wp cx rs _ (jX c n o x s m v d i q (kN [(3043,4),(3045,5),(3042,6),(3047,7),(3037,8),(3038,9),(3124,10),(3094,11),(3076,12),(3082,13),(3060,14),(3061,15),(3033,1326579712)] (List.replicate 4096 0)) rd out tk) P;refine H.st (arr:=kN [(3043,4),(3045,5),(3042,6),(3047,7),(3037,8),(3038,9),(3124,10),(3094,11),(3076,12),(3082,13),(3060,14),(3061,15),(3033,1326579712)] (List.replicate 4096 0)) .num .num (by exact a _ 3063 (by decide)) ?_;show Wp cx rs _ (jX c n o x s m v d i q (kN [(3043,4),(3045,5),(3042,6),(3047,7),(3037,8),(3038,9),(3124,10),(3094,11),(3076,12),(3082,13),(3060,14),(3061,15),(3033,1326579712),(3063,1997537280)] (List.replicate 4096 0)) rd out tk) P;refine H.st (arr:=kN [(3043,4),(3045,5),(3042,6),(3047,7),(3037,8),(3038,9),(3124,10),(3094,11),(3076,12),(3082,13),(3060,14),(3061,15),(3033,1326579712),(3063,1997537280)] (List.replicate 4096 0)) .num .num (by exact a _ 3064 (by decide)) ?_;show Wp cx rs _ (jX c n o x s m v d i q (kN [(3043,4),(3045,5),(3042,6),(3047,7),(3037,8),(3038,9),(3124,10),(3094,11),(3076,12),(3082,13),(3060,14),(3061,15),(3033,1326579712),(3063,1997537280),(3064,1343357056)] (List.replicate 4096 0)) rd out tk) P;refine H.st (arr:=kN [(3043,4),(3045,5),(3042,6),(3047,7),(3037,8),(3038,9),(3124,10),(3094,11),(3076,12),(3082,13),(3060,14),(3061,15),(3033,1326579712),(3063,1997537280),(3064,1343357056)] (List.replicate 4096 0)) .num .num (by exact a _ 3035 (by decide)) ?_;show Wp cx rs _ (jX c n o x s m v d i q (kN [(3043,4),(3045,5),(3042,6),(3047,7),(3037,8),(3038,9),(3124,10),(3094,11),(3076,12),(3082,13),(3060,14),(3061,15),(3033,1326579712),(3063,1997537280),(3064,1343357056),(3035,420483072)] (List.replicate 4096 0)) rd out tk) P;refine H.st (arr:=kN [(3043,4),(3045,5),(3042,6),(3047,7),(3037,8),(3038,9),(3124,10),(3094,11),(3076,12),(3082,13),(3060,14),(3061,15),(3033,1326579712),(3063,1997537280),(3064,1343357056),(3035,420483072)] (List.replicate 4096 0)) .num .num (by exact a _ 3046 (by decide)) ?_;show Wp cx rs _ (jX c n o x s m v d i q (kN [(3043,4),(3045,5),(3042,6),(3047,7),(3037,8),(3038,9),(3124,10),(3094,11),(3076,12),(3082,13),(3060,14),(3061,15),(3033,1326579712),(3063,1997537280),(3064,1343357056),(3035,420483072),(3046,941621248)] (List.replicate 4096 0)) rd out tk) P;refine H.st (arr:=kN [(3043,4),(3045,5),(3042,6),(3047,7),(3037,8),(3038,9),(3124,10),(3094,11),(3076,12),(3082,13),(3060,14),(3061,15),(3033,1326579712),(3063,1997537280),(3064,1343357056),(3035,420483072),(3046,941621248)] (List.replicate 4096 0)) .num .num (by exact a _ 3032 (by decide)) ?_;show Wp cx rs _ (jX c n o x s m v d i q (kN [(3043,4),(3045,5),(3042,6),(3047,7),(3037,8),(3038,9),(3124,10),(3094,11),(3076,12),(3082,13),(3060,14),(3061,15),(3033,1326579712),(3063,1997537280),(3064,1343357056),(3035,420483072),(3046,941621248),(3032,1645215744)] (List.replicate 4096 0)) rd out tk) P;refine H.st (arr:=kN [(3043,4),(3045,5),(3042,6),(3047,7),(3037,8),(3038,9),(3124,10),(3094,11),(3076,12),(3082,13),(3060,14),(3061,15),(3033,1326579712),(3063,1997537280),(3064,1343357056),(3035,420483072),(3046,941621248),(3032,1645215744)] (List.replicate 4096 0)) .num .num (by exact a _ 3069 (by decide)) ?_;show Wp cx rs _ (jX c n o x s m v d i q (kN [(3043,4),(3045,5),(3042,6),(3047,7),(3037,8),(3038,9),(3124,10),(3094,11),(3076,12),(3082,13),(3060,14),(3061,15),(3033,1326579712),(3063,1997537280),(3064,1343357056),(3035,420483072),(3046,941621248),(3032,1645215744),(3069,908066816)] (List.replicate 4096 0)) rd out tk) P;refine H.st (arr:=kN [(3043,4),(3045,5),(3042,6),(3047,7),(3037,8),(3038,9),(3124,10),(3094,11),(3076,12),(3082,13),(3060,14),(3061,15),(3033,1326579712),(3063,1997537280),(3064,1343357056),(3035,420483072),(3046,941621248),(3032,1645215744),(3069,908066816)] (List.replicate 4096 0)) .num .num (by exact a _ 3036 (by decide)) ?_;show Wp cx rs _ (jX c n o x s m v d i q (kN [(3043,4),(3045,5),(3042,6),(3047,7),(3037,8),(3038,9),(3124,10),(3094,11),(3076,12),(3082,13),(3060,14),(3061,15),(3033,1326579712),(3063,1997537280),(3064,1343357056),(3035,420483072),(3046,941621248),(3032,1645215744),(3069,908066816),(3036,1509949440)] (List.replicate 4096 0)) rd out tk) P;exact h
theorem ZJ: ∀c:Nat,c<256→((gR (gR ((c:Int)- 68) *gR ((c:Int)- 73))=0)↔c=68∨c=73):=by decide+kernel
theorem ZI (c:Nat) (h:c<256):(gR ((c:Int)- 69)<2)↔c=69∨c=70:=by
 show IntKind.wrap .u32 _<2↔_;rw[IntKind.wrap_u32];omega
def OM (t:dE) (k:Nat):Int:=match t[k]? with
 |some c=>(c.toNat:Int)
 |none=>256
theorem NT {cx:Cx} {t:dE} (a:cx.inp=t) {c n o x s m v d i q:Int} {arr:List Int} {rd:Nat} {out:dE} {tk:Nat}:yE cx (jX c n o x s m v d i q arr rd out tk)= .val (OM t rd) (jX c n o x s m v d i q arr (if rd<t.length then rd+1 else rd) out tk):=by
 unfold yE OM;rw[a];show(match t[rd]? with |some c=>_|none=>_)=_;by_cases h:rd<t.length
 ·rw[aC h,bF h];rfl
 rw[dO (by omega),aO h]
theorem Vw (c:UInt8):c.toNat<256:=c.toNat_lt
theorem N3 {c:UInt8} {k:Nat} (a:k<256):c.toNat=k↔c=UInt8.ofNat k:=by
 constructor
 ·intro h;rw[←h];simp
 intro h;rw[h,UInt8.toNat_ofNat'];omega
theorem VT {cx:Cx} {rs:dE→Bool×Int} (H:pD rs) {t:dE} (a:cx.inp=t) {P:RS→Prop} {l:List Sm} {c n o x s m v d i q:Int} {arr:List Int} {rd:Nat} {out:dE} {tk:Nat} (h:Wp cx rs l (jX (OM t rd) n o x s m v d i q arr (if rd<t.length then rd+1 else rd) out tk) P):Wp cx rs (.mk 1 [99] [.mk 5 0 0 [] []] [] []::l) (jX c n o x s m v d i q arr rd out tk) P:=
 .get (NT a) H.c (by decide) (by show(0:Int).toNat<10;decide) h
theorem HI {cx:Cx} {rs:dE→Bool×Int} (H:pD rs) {t:dE} (R:cx.inp=t) (hN:t.length≤2500) (hf:t.length+2<cx.fuel) {P:RS→Prop} {l:List Sm} {T:List Int} {o':Int} (J:yC t ([],0)=some (T,o'))
  (h: ∀o x arr,AT arr T→Wp cx rs l (jX 256 t.length o x 0 0 0 0 0 0 arr t.length [] (t.length+1)) P):
  Wp cx rs (.mk 1 [99] [.mk 5 0 0 [] []] [] []:: .mk 5 [] [.mk 6 14 0 [] [.mk 2 0 0 [99] [], .mk 1 0 256 [] []]] D9 []::l) (jX 0 0 0 0 0 0 0 0 0 0 J1 0 [] 0) P:=by
 refine VT H R ?_;refine Wp.loop (fun k st=> ∃g ok x arr,yC (t.take k) ([],0)=some (g,ok)∧AT arr g∧st=jX (OM t k) (k:Int) ok x 0 0 0 0 0 0 arr (if k<t.length then k+1 else k) [] (k+1)) t.length (by show 0<cx.fuel;omega) ⟨[],0,0,J1,by simp [yC],OR,rfl⟩ ?_ ?_
 rotate_left
 ·rintro _ ⟨g,ok,x,arr,p,X,rfl⟩
  rw[dV,J]at p;simp only[Option.some.injEq,Prod.mk.injEq]at p;obtain⟨rfl,rfl⟩:=p;have W:OM t t.length=256:=by unfold OM;rw[dO (aZ _)]
  rw[W,aO (OZ _)];exact⟨(.op H.vc .num (Dq _ _)),h _ _ _ X⟩
 rintro k _ S ⟨g,ok,x,arr,p,A,rfl⟩;rw[bF S];obtain⟨c,G⟩: ∃c,t[k]?=some c:=⟨_,aC S⟩;have O:OM t k=(c.toNat:Int):=by unfold OM;rw[G]
 have Q:=Vw c
 obtain⟨u,D,f⟩: ∃u D,Q0 c (g,ok)=some (u,D):=by
  have e:t=t.take k++(c::t.drop (k+1)):=by
   rw[bD]at G;obtain⟨_,rfl⟩:=G;rw[List.getElem_cons_drop,lZ]
  rw[e,lV,p]at J;simp only[bX,yC,cJ]at J;obtain⟨⟨a,b⟩,Z,_⟩:=J;exact⟨a,b,Z⟩
 have a1:yC (t.take (k+1)) ([],0)=some (u,D):=by
  rw[List.take_add_one,G,Option.toList_some,lV,p];simp only[bX,yC,f]
 have B:g.length=k:=by
  have:=P9 p;rw[dS]at this;simp at this;omega
 have a2:=A.len;refine⟨_,(.op H.vc .num (Dq _ _)),by rw[O,bF (by omega)];decide, ?_⟩;rw[O]
 have C: ∀x E,AT E u→Wp cx rs [.mk 1 [110] [.mk 6 4 0 [] [.mk 2 0 0 [110] [], .mk 1 0 1 [] []]] [] [], .mk 1 [99] [.mk 5 0 0 [] []] [] []] (jX c.toNat k D x 0 0 0 0 0 0 E (k+1) [] (k+1)) (fun V=>V.ticks<cx.fuel∧ ∃g ok x arr,yC (t.take (k+1)) ([],0)=some (g,ok)∧AT arr g∧V.tick=jX (OM t (k+1)) ((k+1:Nat):Int) ok x 0 0 0 0 0 0 arr (if k+1<t.length then k+1+1 else k+1) [] (k+1+1)):=by
  intro x E Y;refine H.wn (.op H.vn .num (J2 _ _)) ?_;rw[eL (by omega)];refine VT H R (.nil ⟨by show k+1<cx.fuel;omega,u,D,x,E,a1,Y, ?_⟩);rfl
 unfold D9;have I:((k:Int)).toNat=k:=by simp
 refine H.st H.vn H.vc (by rw[I];omega) ?_;rw[I];unfold Q0 at f;simp only at f;have K:(c=68∨c=73)↔(c.toNat=68∨c.toNat=73):=by rw[N3 (by decide),N3 (by decide)];rfl
 have M:(c=69∨c=70)↔(c.toNat=69∨c.toNat=70):=by rw[N3 (by decide),N3 (by decide)];rfl
 have N:=ZJ c.toNat Q;have L:=ZI c.toNat Q;by_cases z:c=68∨c=73
 ·rw[bF z]at f
  simp only[Option.some.injEq,Prod.mk.injEq]at f;obtain⟨rfl,rfl⟩:=f;refine .yes (.op (.op (.op H.vc .num (LC _ _)) (.op H.vc .num (LC _ _)) (UL _ _)) .num (Uy _ _)) (by rw[bF (N.2 (K.1 z))];decide) ?_;refine H.st H.vn H.vo (by rw[I,dK];omega) ?_;refine H.wo H.vn (.nil ?_);refine .no (.op (.op H.vc .num (LC _ _)) .num (Dq _ _)) (by rw[aO (fun e=>by have:=L.1 e;have:=K.1 z;omega)]) ?_;rw[I,List.set_set];have j:=A.push (by omega) ok;rw[B]at j;rw[B]at C;exact C _ _ j
 rw[aO z]at f;refine .no (.op (.op (.op H.vc .num (LC _ _)) (.op H.vc .num (LC _ _)) (UL _ _)) .num (Uy _ _)) (by rw[aO (fun e=>z (K.2 (N.1 e)))]) ?_;by_cases F:c=69∨c=70
 ·rw[bF F]at f
  split at f
  ·rename_i h0
   split at f
   ·rename_i y U
    simp only[Option.some.injEq,Prod.mk.injEq]at f;obtain⟨rfl,rfl⟩:=f;have a0:=(bD.1 U).1;refine .yes (.op (.op H.vc .num (LC _ _)) .num (Dq _ _)) (by rw[bF (L.2 (M.1 F))];decide) ?_;refine H.wx (H.it H.vo (by rw[hJ,aO (by omega),A.eq _ a0,U])) ?_;refine H.st H.vo (.op .num (.op H.vn .num (UL _ _)) (J2 _ _)) (by rw[dK];omega) ?_;refine H.wo H.vx (.nil ?_);rw[eL (x:=(k:Int) *4) (by omega),eL (by omega),show(857735172+(k:Int) *4)=857735172+4 *(g.length:Int)by omega];have j:=A.push (by omega) (c.toNat:Int);rw[B]at j⊢;rw[B]at C;exact C _ _ (j.set (by rw[aB];omega) _)
   cases f
  cases f
 rw[aO F]at f;simp only[Option.some.injEq,Prod.mk.injEq]at f;obtain⟨rfl,rfl⟩:=f;refine .no (.op (.op H.vc .num (LC _ _)) .num (Dq _ _)) (by rw[aO (fun e=>F (M.2 (L.1 e)))]) ?_;have j:=A.push (by omega) (c.toNat:Int);rw[B]at j;exact C _ _ j
end Go.Al
namespace Go.Proofs.YtaecpjgmcffliaaGreatDoor
open Go.Al Go.Proofs.Tryz
theorem JA {g:Type} {T:List fX} (i:Sz T) {w c:Bool} {n b:Nat} {a:fX} {k:Int} (d:kR c b (PR.ok a b)=kR w n (kG T k n)) {G:Int→PR g} {f:PR g} (h:kR c b (G a.num)=f):kR c b (G (IntKind.wrap .i64 a.num))=f:=by
 cases c with
 |true=>exact h
 |false=>
  cases w with
  |true=>cases d
  |false=>
   rw[nH,nH]at d;have j:=kL d.symm;have e:=(i.tok _ (aW j.2.2.1)).1;rw[aU _ (by have:=e.1;have:=e.2;omega)];exact h
def Ee (T:List fX) (vs:List dE) (ar:List Ar) (fs:List Fu) (m:Nat):PR Pg:=(JM T m).bind fun g m=>(Jh T (fs++[g]) m).bind fun fs m=> .ok ⟨vs,ar,fs⟩ m
theorem P0 (T:List fX) (vs:List dE) (a:List Ar) (m:Nat):Py T (vs,a) m=(fA T zV m).bind fun _ m=>Ee T vs a [] m:=by
 unfold Py;rw[JO,lX];simp only[Ee,cC]
theorem JL (T:List fX) (vs:List dE) (b:List Ar) (a:List Fu) (m:Nat) (h:m<T.length):((Jh T a m).bind fun a m=>(.ok ⟨vs,b,a⟩ m:PR Pg))=(fA T zV m).bind fun _ m=>Ee T vs b a m:=by
 rw[Jg,bF h,JO,lX,lX];simp only[Ee]
theorem Z7 (F:Nat) {T:List fX} (hT:Sz T) (n:Nat) (w:Bool) (hn:n≤T.length):qF 65 [] F T n w YW (kR w n (Ef T n)):=by
 unfold qF;generalize p:kR w n (Ef T n)=c1;rw[HQ]at p;have w1:=hT.len;have d:=mP F T n w;refine bU 78 [.cell 2 26] func65 ?_;refine aA fun K I=>?_;simp only[RR,seval];refine aN fun y c0=>?_;have a4:=cR c0 d;have d4:=a4.symm;simp only[RR,seval];refine I _ _ (aA fun K I=>?_);simp only[RR,seval];refine aN fun z g7=>?_;have a5:z≠F:=fun e=>by rw[e]at g7;simp only[d,d4,RR,seval,reduceCtorEq]at g7
 have a8:=a5.symm;have q8:z≠y:=fun e=>by rw[e]at g7;simp only[RR,seval,reduceCtorEq]at g7
 have a3:=q8.symm;simp only[RR,seval];refine I _ _ (aH (bN fun F1 M1 o j=>?_));have u:=o 0;have A:=o 2;have B:=o 3;have C:=j F;have f:=j y;have g:=j z;simp only[d,d4,a8,a3,RR,seval]at u A B C f g;have d:=C;refine aQ (iP [0,2,3] (T.length-n) (fun k fr M=>M y=M1 y∧(∃(m:Nat) (V:Bool) (vs:List dE) (U:List Ar) (v1 v2:AV),k=T.length-m∧n≤m∧m≤T.length∧vs.length≤1000001 *(m+1)∧U.length≤m∧kR V m ((En T vs U m).bind (Py T))=c1∧dZ 1 v1 (vs.map bT) M∧dZ 2 v2 (U.map Ar.row) M∧M z=some (.rows 3 [[v1,v2, .nsl]])∧M F=some (.rows 3 [[.isl 4 (T.map fX.row), .int .i64 (m:Nat), .bool V]]))) ⟨rfl,n,w,[],[], .nsl, .nsl,rfl,aZ _,hn,cN _,cN _,p, .inl ⟨rfl,rfl⟩, .inl ⟨rfl,rfl⟩,g,d⟩ ?_);rintro k F2 M2 ⟨i,m,V,vs,U,v1,v2,rfl,j9,hm,w7,u6,p,H,D,g,d⟩ a7 K0 j5;have u:=(a7 0 rfl).trans u;have A:=(a7 2 rfl).trans A;have B:=(a7 3 rfl).trans B;have f:=i.trans f;have a9:=bC.refl [0,2,3] F2;have Q:=i;clear a7;have Z:=H.offsz g (by decide);have g8:=D.offsz g (by decide);have w5:=H.one1;have u7:=H.cells;have w6:=D.one1;have u8:=D.cells;refine aH (aA fun K I=>?_);simp only[u,d,RR,seval];refine I _ _ (aX ?_ ?_)<;>intro hc
 ·have j0:=hc;clear hc
  rw[JI]at p;simp only[Av,lX,PR.bind_ok]at p;refine aL ?_;simp only[RR];refine aQ (aH (aA fun K I=>?_));simp only[u,RR,seval];refine gL (jY F hT m V hm V4 (by decide)) d trivial fun M3 p4 f8=>?_;have i:=f8 y _ a4 f;have Q:=(i.trans f.symm).trans Q;have t:=f8 z _ a5 g;have f:=i;have g:=t;have H:=dZ.kp H d (by decide) f8;have D:=dZ.kp D d (by decide) f8;have d:=p4;simp only[RR,seval];refine I _ _ (aX ?_ ?_)<;>intro d8
  ·have p:=rP d8 p
   rw[bF d8]at d;have w2:=jO d8 (by decide);refine bN fun F4 M4 o j=>?_;have J:=o 0;have L:=o 2;have N:=o 3;have i:=j y;have C:=j F;have t:=j z;simp only[u,A,B,f,d,g,RR,seval]at J L N i C t;have a9:bC [0,2,3] F2 F4:=bC.same o (by repeat (first|exact a9|refine bC.upd rfl ?_));have Q:=(j y).trans Q;have H:=H.same j;have D:=D.same j;have u:=J;have A:=L;have B:=N;have f:=i;have d:=C;have g:=t;refine aG fun K I=>?_;refine bA (fun x=>x≠z∧x≠y) [(0,3),(1,0),(2,3),(3,1),(4,1),(5,3)] [(6,1)] eB (by kernel_rfl) rfl rfl ?_;simp only[*,dI,fP,RR,seval];refine U2 (wJ F hT (m+1) V (by omega)) d (by trivial) fun j4 q4 r2 M5 n8 v0 o6 u9 p5 f9=>?_;have p:=dA p n8;have i:=f9 y _ a4 f;have Q:=(i.trans f.symm).trans Q;have t:=f9 z _ a5 g;have f:=i;have g:=t;have H:=dZ.kp H d (by decide) f9;have D:=dZ.kp D d (by decide) f9;have d:=p5;simp only[strs,Iq,RR,seval];refine jC H (by simp only[aF];omega) (fun b e=>by(repeat' apply And.intro)<;>(intro c;subst c;first|exact Z _ _ e|exact H.nb' f (by decide) e)) fun v4 M6 c3 a2 c2=>?_;have b1:=c2 z Z (by rw[g];exact bY _);simp only[B,RR,seval];have i:=a2 y _ f (by exact(H).nb' f (by decide));have Q:=(i.trans f.symm).trans Q;have f:=i;have C:=a2 F _ d (by exact(H).nb' d (by decide));have d:=C;have t:=a2 z _ g (by exact(H).nb' g (by decide));have g:=t;have c5:=c3.cells;have d0:=c3.one1;simp only[c5,d0,bX,List.drop,g,RR,seval];apply I;have D:=D.app2 H (by decide) a2;refine bN fun F7 M7 o j=>?_;have J:=o 0;have L:=o 2;have N:=o 3;have i:=j y;have C:=j F;have g:=j z;simp only[u,A,B,f,d,a8,a3,RR,seval]at J L N i C g;have a9:bC [0,2,3] F2 F7:=bC.same o (by repeat (first|exact a9|refine bC.upd rfl ?_));have Q:=(j y).trans (by(simp only[a3,aS,seval];exact Q));have c3:=(c3.off b1 _).same j;have D:=(D.off g8 _).same j;have u:=J;have A:=L;have B:=N;have f:=i;have d:=C;refine aA fun K I=>?_;simp only[u,RR,seval];refine dU (fM F hT q4 r2 o6 [59] (by decide)) d trivial fun u2 j1 k6 M8 n9 v5 j7 p6 g1=>?_;have p:=dA p n9;have i:=g1 y _ a4 f;have Q:=(i.trans f.symm).trans Q;have t:=g1 z _ a5 g;have f:=i;have g:=t;have c3:=dZ.kp c3 d (by decide) g1;have D:=dZ.kp D d (by decide) g1;have d:=p6;simp only[RR,seval];apply I;obtain⟨mz,p3⟩: ∃mz:Nat,mz=j1:=⟨_,rfl⟩;refine cH ?_;simp only[RR,seval];refine j5 (T.length-mz) _ _ (by omega) ⟨Q, ?_⟩ (by repeat (first|exact a9|refine bC.upd rfl ?_))
   first
    |(refine⟨j1,k6,vs++j4,U,_,v2, ?_, ?_,j7, ?_, ?_, ?_, ?_,D,g,d⟩;omega;omega;(simp only[aB];omega);omega;exact p;(rw[cP];exact c3))
    |(refine⟨j3,k8,vs,U++[⟨h5.text,IntKind.wrap .i64 h6.num⟩],v1,_, ?_, ?_,j8, ?_, ?_, ?_,H.off k0 _, ?_,bO _ _ _, ?_⟩;omega;omega;omega;(simp only[aB,aJ,aT];omega);exact p;(rw[cP];exact g9.off b1 _);(simp only[*,aF,strs,XO,Iq,aS,RR,seval];done))
  have p:=rQ d8 p;rw[aO (dL.1 d8)]at d;refine aL ?_;simp only[RR];refine aH (aA fun K I=>?_);simp only[u,RR,seval];refine gL (jY F hT m V hm B6 (by decide)) d trivial fun M9 p7 g5=>?_;have i:=g5 y _ a4 f;have Q:=(i.trans f.symm).trans Q;have t:=g5 z _ a5 g;have f:=i;have g:=t;have H:=dZ.kp H d (by decide) g5;have D:=dZ.kp D d (by decide) g5;have d:=p7;simp only[RR,seval];refine I _ _ (aX ?_ ?_)<;>intro d9
  ·have p:=rP d9 p
   rw[bF d9]at d;have w3:=jO d9 (by decide);refine bN fun k9 s0 o j=>?_;have J:=o 0;have L:=o 2;have N:=o 3;have i:=j y;have C:=j F;have t:=j z;simp only[u,A,B,f,d,g,RR,seval]at J L N i C t;have a9:bC [0,2,3] F2 k9:=bC.same o (by repeat (first|exact a9|refine bC.upd rfl ?_));have Q:=(j y).trans Q;have H:=H.same j;have D:=D.same j;have u:=J;have A:=L;have B:=N;have f:=i;have d:=C;have g:=t;refine aA fun K I=>?_;simp only[u,RR,seval];refine dU (oR F hT (m+1) V (by omega) 1 (by decide)) d trivial fun h5 q5 r3 s1 o0 v6 o7 p8 g6=>?_;have p:=dA p o0;have i:=g6 y _ a4 f;have Q:=(i.trans f.symm).trans Q;have t:=g6 z _ a5 g;have f:=i;have g:=t;have H:=dZ.kp H d (by decide) g6;have D:=dZ.kp D d (by decide) g6;have d:=p8;simp only[RR,seval];refine aN fun b4 e7=>?_;have q9:=cR e7 f;have h1:=q9.symm;have f1:=cR e7 d;have k5:=f1.symm;have r1:=cR e7 g;have k2:=r1.symm;simp only[RR,seval];apply I;have i9:=H.offnone e7;have e8:=D.offnone e7;refine bN fun l0 s2 o j=>?_;have J:=o 0;have L:=o 2;have N:=o 3;have f4:=o 4;have i:=j y;have C:=j F;have t:=j z;have a6:=j b4;simp only[u,A,B,f,d,g,h1,k5,k2,RR,seval]at J L N f4 i C t a6;have a9:bC [0,2,3] F2 l0:=bC.same o (by repeat (first|exact a9|refine bC.upd rfl ?_));have Q:=(j y).trans (by(simp only[h1,aS,seval];exact Q));have H:=((H.off i9 _).off i9 _).same j;have D:=((D.off e8 _).off e8 _).same j;have u:=J;have A:=L;have B:=N;have f:=i;have d:=C;have g:=t;refine aA fun K I=>?_;simp only[u,RR,seval];refine dU (fM F hT q5 r3 o7 [91] (by decide)) d trivial fun u3 q6 r4 s3 o1 v7 o8 p9 e0=>?_;have p:=dA p o1;have i:=e0 y _ a4 f;have Q:=(i.trans f.symm).trans Q;have t:=e0 z _ a5 g;have b7:=e0 b4 _ f1 a6;have f:=i;have g:=t;have a6:=b7;have H:=dZ.kp H d (by decide) e0;have D:=dZ.kp D d (by decide) e0;have d:=p9;simp only[RR,seval];refine I _ _ (aA fun K I=>?_);simp only[u,RR,seval];refine dU (oR F hT q6 r4 o8 2 (by decide)) d trivial fun h6 j2 k7 s4 j6 v8 o9 q0 e1=>?_;have p:=dA p j6;have i:=e1 y _ a4 f;have Q:=(i.trans f.symm).trans Q;have t:=e1 z _ a5 g;have b7:=e1 b4 _ f1 a6;have f:=i;have g:=t;have a6:=b7;have H:=dZ.kp H d (by decide) e1;have D:=dZ.kp D d (by decide) e1;have d:=q0;simp only[RR,seval];apply I;obtain⟨G,hG⟩: ∃G:Int→PR Pg,G=fun x=>(fA T [93] j2).bind fun _ m=>(fA T [59] m).bind fun _ m=>(En T vs (U++[⟨h5.text,x⟩]) m).bind (Py T):=⟨_,rfl⟩;have p:kR k7 j2 (G h6.num)=c1:=by rw[hG];exact p
   have p:=JA (G:=G) hT j6 p;rw[hG]at p;dsimp only at p;refine aA fun K I=>?_;simp only[u,RR,seval];refine dU (fM F hT j2 k7 o9 [93] (by decide)) d trivial fun u4 q7 r5 s5 o2 v9 p0 q1 e2=>?_;have p:=dA p o2;have i:=e2 y _ a4 f;have Q:=(i.trans f.symm).trans Q;have t:=e2 z _ a5 g;have b7:=e2 b4 _ f1 a6;have f:=i;have g:=t;have a6:=b7;have H:=dZ.kp H d (by decide) e2;have D:=dZ.kp D d (by decide) e2;have d:=q1;simp only[RR,seval];refine I _ _ (aA fun K I=>?_);simp only[u,RR,seval];refine dU (fM F hT q7 r5 p0 [59] (by decide)) d trivial fun u5 j3 k8 s6 o3 w0 j8 q2 e3=>?_;have p:=dA p o3;have i:=e3 y _ a4 f;have Q:=(i.trans f.symm).trans Q;have t:=e3 z _ a5 g;have b7:=e3 b4 _ f1 a6;have f:=i;have g:=t;have a6:=b7;have H:=dZ.kp H d (by decide) e3;have D:=dZ.kp D d (by decide) e3;have d:=q2;simp only[RR,seval];apply I;obtain⟨mz,p3⟩: ∃mz:Nat,mz=j3:=⟨_,rfl⟩;refine aA fun K I=>?_;simp only[f4,a6,RR,seval];refine I _ _ (bN fun l1 s7 o j=>?_);have J:=o 0;have L:=o 2;have N:=o 3;have g4:=o 4;have f5:=o 5;have i:=j y;have C:=j F;have t:=j z;have a6:=j b4;simp only[u,A,B,f4,f,d,g,h1,k5,k2,RR,seval]at J L N g4 f5 i C t a6;have a9:bC [0,2,3] F2 l1:=bC.same o (by repeat (first|exact a9|refine bC.upd rfl ?_));have Q:=(j y).trans (by(simp only[h1,aS,seval];exact Q));have H:=(H.off i9 _).same j;have D:=(D.off e8 _).same j;have k0:=Z;have Z:=g8;have u:=J;have A:=L;have B:=N;have f4:=g4;have f:=i;have d:=C;have g:=t;refine aA fun K I=>?_;simp only[*,RR,seval];refine dG ?_;simp only[RR,seval];refine jC D (by simp only[aF,aJ,aT];omega) (fun b e=>by trivial) fun w8 s8 g9 a2 c2=>?_;have b1:=c2 z Z (by rw[g];exact bY _);have w4:=c2 b4 e8 (by rw[a6];exact bY _);simp only[B,RR,seval];have i:=a2 y _ f (by exact(D).nb' f (by decide));have Q:=(i.trans f.symm).trans Q;have f:=i;have C:=a2 F _ d (by exact(D).nb' d (by decide));have d:=C;have t:=a2 z _ g (by exact(D).nb' g (by decide));have g:=t;have b7:=a2 b4 _ a6 (e8 _ _);have a6:=b7;have c5:=g9.cells;have d0:=g9.one1;simp only[c5,d0,bX,List.drop,g,RR,seval];apply I;have H:=H.app2 D (by decide) a2;refine cH ?_;simp only[RR,seval];refine j5 (T.length-mz) _ _ (by omega) ⟨(by(simp only[a3,aS,seval];exact Q)), ?_⟩ (by repeat (first|exact a9|refine bC.upd rfl ?_))
   first
    |(refine⟨j1,k6,vs++j4,U,_,v2, ?_, ?_,j7, ?_, ?_, ?_, ?_,D,g,d⟩;omega;omega;(simp only[aB];omega);omega;exact p;(rw[cP];exact c3))
    |(refine⟨j3,k8,vs,U++[⟨h5.text,IntKind.wrap .i64 h6.num⟩],v1,_, ?_, ?_,j8, ?_, ?_, ?_,H.off k0 _, ?_,bO _ _ _, ?_⟩;omega;omega;omega;(simp only[aB,aJ,aT];omega);exact p;(rw[cP];exact g9.off b1 _);(simp only[d,a8,aS,seval];done))
  have p:=rQ d9 p;rw[aO (dL.1 d9)]at d;refine aL ?_;simp only[RR];refine cH ?_;simp only[RR,seval];refine bN fun r6 m4 o j=>?_;have J:=o 0;have L:=o 2;have N:=o 3;have i:=j y;have C:=j F;have t:=j z;simp only[u,A,B,f,d,g,RR,seval]at J L N i C t;have H:=H.same j;have D:=D.same j;have u:=J;have A:=L;have B:=N;have f:=i;have d:=C;have g:=t;rw[P0]at p;have X:m4 z=some (.rows 3 [[]++v1::[v2, .nsl]]):=g;refine iE H X (fun x l=>by cases l) (fun x l=>by simp only[bJ,bL,dD]at l;rcases l with rfl|rfl;exact P6 H D (by decide);exact bS rfl) Z fun m0 d7 P Y R=>?_;have u:=(P 0 (by rw[u];exact bS rfl)).trans u;have A:=(P 2 (by rw[A];exact bS rfl)).trans A;have B:=(P 3 (by rw[B];exact bS rfl)).trans B;have d:=R F _ _ a8 (H.offsz d (by decide)) (fun r O x l=>by simp only[bE]at O;subst O;simp only[bJ,bL,dD]at l;rcases l with rfl|rfl|rfl<;>exact bS rfl) d;have f:=R y _ _ a3 (H.offsz f (by decide)) (fun r O x l=>by simp only[bE]at O;subst O;simp only[bJ,bL,dD]at l;rcases l with rfl|rfl|rfl<;>exact bS rfl) f;have D:=D.thru H (by decide) g (by decide) (Yg _) R;have g:d7 z=some (.rows 3 [[.isl 1 (vs.map bT),v2, .nsl]]):=Y;clear Y X P R;have X:d7 z=some (.rows 3 [[.isl 1 (vs.map bT)]++v2::[.nsl]]):=g;refine iE D X (fun x l=>by simp only[bJ,bL,dD]at l;rcases l with rfl;exact bS rfl) (fun x l=>by simp only[bJ,bL,dD]at l;rcases l with rfl;exact bS rfl) g8 fun m1 h2 P Y R=>?_;have u:=(P 0 (by rw[u];exact bS rfl)).trans u;have A:=(P 2 (by rw[A];exact bS rfl)).trans A;have B:=(P 3 (by rw[B];exact bS rfl)).trans B;have d:=R F _ _ a8 (D.offsz d (by decide)) (fun r O x l=>by simp only[bE]at O;subst O;simp only[bJ,bL,dD]at l;rcases l with rfl|rfl|rfl<;>exact bS rfl) d;have f:=R y _ _ a3 (D.offsz f (by decide)) (fun r O x l=>by simp only[bE]at O;subst O;simp only[bJ,bL,dD]at l;rcases l with rfl|rfl|rfl<;>exact bS rfl) f;have g:h2 z=some (.rows 3 [[.isl 1 (vs.map bT), .isl 2 (U.map Ar.row), .nsl]]):=Y;clear Y X P R;have Z:Al.off AV.nsl z:=fun _ _ h=>by cases h
  refine aA fun K I=>?_;simp only[u,RR,seval];refine dU (fM F hT m V hm zV (by decide)) d trivial fun n5 e9 f7 s9 i1 o4 i5 i6 e4=>?_;have p:=dA p i1;have i:=e4 y _ a4 f;have t:=e4 z _ a5 g;have f:=i;have g:=t;have d:=i6;simp only[RR,seval];refine I _ _ (bN fun r7 m5 o j=>?_);have J:=o 0;have L:=o 2;have N:=o 3;have i:=j y;have C:=j F;have t:=j z;simp only[u,A,B,f,d,g,RR,seval]at J L N i C t;have u:=J;have A:=L;have B:=N;have f:=i;have d:=C;have g:=t;refine aQ (iP [0,2,3] (Nx T e9 f7) (fun k fr M=>M y=m5 y∧(∃(m:Nat) (V:Bool) (W:List Fu) (v:AV),k=Nx T m V∧n≤m∧m≤T.length∧W.length≤m+1∧(V=false→W.length≤m)∧kR V m (Ee T vs U W m)=c1∧dZ 5 v (W.map Fu.row) M∧M z=some (.rows 3 [[.isl 1 (vs.map bT), .isl 2 (U.map Ar.row),v]])∧M F=some (.rows 3 [[.isl 4 (T.map fX.row), .int .i64 (m:Nat), .bool V]]))) ⟨rfl,e9,f7,[], .nsl,rfl,by omega,i5,cN _,fun _=>cN _,p, .inl ⟨rfl,rfl⟩,g,d⟩ ?_);rintro k d5 t0 ⟨i,m,V,W,v3,rfl,j9,hm,h8,h9,p,E,g,d⟩ a7 K2 h7;have u:=(a7 0 rfl).trans u;have A:=(a7 2 rfl).trans A;have B:=(a7 3 rfl).trans B;have f:=i.trans f;have a0:=bC.refl [0,2,3] d5;have S:=i;clear a7;have Z:=E.offsz g (by decide);have q3:=E.one1;have n7:=E.cells;refine aQ (aH (aA fun K I=>?_));simp only[u,d,RR,seval];refine I _ _ (aX ?_ ?_)<;>intro c4
  ·have p:kR V m (PR.ok (⟨vs,U,W⟩:Pg) m)=c1:=by rw[c4]at p⊢;exact p
   obtain⟨n2,c9⟩: ∃n2:Nat,n2=m:=⟨_,rfl⟩;rw[←c9]at p d;have c8:n≤n2:=by omega
   have c0:n2≤T.length:=by omega
   refine bN fun l2 m6 o j=>?_;have J:=o 0;have L:=o 2;have N:=o 3;have i:=j y;have C:=j F;have t:=j z;simp only[u,A,B,f,d,g,RR,seval]at J L N i C t;have a0:bC [0,2,3] d5 l2:=bC.same o (by repeat (first|exact a0|refine bC.upd rfl ?_));have S:=(j y).trans S;have E:=E.same j;have u:=J;have A:=L;have B:=N;have f:=i;have d:=C;have g:=t;have X:m6 z=some (.rows 3 [[.isl 1 (vs.map bT), .isl 2 (U.map Ar.row)]++v3::[]]):=g;refine iE E X (fun x l=>by simp only[bJ,bL,dD]at l;rcases l with rfl|rfl<;>exact bS rfl) (fun x l=>by cases l) Z fun m2 h3 P Y R=>?_;have A:=(P 2 (by rw[A];exact bS rfl)).trans A;have B:=(P 3 (by rw[B];exact bS rfl)).trans B;have d:=R F _ _ a8 (E.offsz d (by decide)) (fun r O x l=>by simp only[bE]at O;subst O;simp only[bJ,bL,dD]at l;rcases l with rfl|rfl|rfl<;>exact bS rfl) d;have f:=R y _ _ a3 (E.offsz f (by decide)) (fun r O x l=>by simp only[bE]at O;subst O;simp only[bJ,bL,dD]at l;rcases l with rfl|rfl|rfl<;>exact bS rfl) f;have g:h3 z=some (.rows 3 [[.isl 1 (vs.map bT), .isl 2 (U.map Ar.row), .isl 5 (W.map Fu.row)]]):=Y;clear Y X P R;refine aA fun K I=>?_;simp only[*,RR,seval];apply I;refine aP ?_;simp only[aY,aK,bP,A,RR,seval];refine iO (by(simp only[d,d4,aS,seval];done)) p ?_ c8 c0;exact jE.refl _
  unfold Ee at p;have h8:=h9 c4;refine aL ?_;simp only[RR];refine bN fun l3 t1 o j=>?_;have J:=o 0;have L:=o 2;have N:=o 3;have i:=j y;have C:=j F;have t:=j z;simp only[u,A,B,f,d,g,RR,seval]at J L N i C t;have a0:bC [0,2,3] d5 l3:=bC.same o (by repeat (first|exact a0|refine bC.upd rfl ?_));have S:=(j y).trans S;have E:=E.same j;have u:=J;have A:=L;have B:=N;have f:=i;have d:=C;have g:=t;refine aG fun K I=>?_;refine bA (fun x=>x≠z∧x≠y) [(0,3),(1,0),(2,3),(3,1),(4,2),(5,1),(6,3)] [(7,1)] eB (by kernel_rfl) rfl rfl ?_;simp only[*,dI,fP,RR,seval];refine dU (Ya F hT m V hm) d (by trivial) fun b6 a1 b0 t2 i2 o5 e5 i7 c6=>?_;have p:=dA p i2;have i:=c6 y _ a4 f;have S:=(i.trans f.symm).trans S;have t:=c6 z _ a5 g;have f:=i;have g:=t;have E:=dZ.kp E d (by decide) c6;have d:=i7;simp only[XO,RR,seval];refine jC E (by simp only[aF,aJ,aT];omega) (fun b e=>by(repeat' apply And.intro)<;>(intro c;subst c;first|exact Z _ _ e|exact E.nb' f (by decide) e)) fun f6 t3 d1 a2 c2=>?_;have b1:=c2 z Z (by rw[g];exact bY _);simp only[B,RR,seval];have i:=a2 y _ f (by exact(E).nb' f (by decide));have S:=(i.trans f.symm).trans S;have f:=i;have C:=a2 F _ d (by exact(E).nb' d (by decide));have d:=C;have t:=a2 z _ g (by exact(E).nb' g (by decide));have g:=t;have c5:=d1.cells;have d0:=d1.one1;simp only[c5,d0,bX,List.drop,g,RR,seval];refine I _ _ (aH (bN fun l4 m7 o j=>?_));have J:=o 0;have L:=o 2;have N:=o 3;have i:=j y;have C:=j F;have g:=j z;simp only[u,A,B,f,d,a8,a3,RR,seval]at J L N i C g;have a0:bC [0,2,3] d5 l4:=bC.same o (by repeat (first|exact a0|refine bC.upd rfl ?_));have S:=(j y).trans (by(simp only[a3,aS,seval];exact S));have E:dZ 5 f6 ((W++[b6]).map Fu.row) m7:=by rw[cP];exact(d1.off b1 _).same j
  have Z:=b1;have u:=J;have A:=L;have B:=N;have f:=i;have d:=C;refine aG fun K I=>?_;refine bA (fun x=>x≠y∧x≠F∧x≠z) [(0,3),(1,3),(2,3),(3,1),(4,3),(5,3),(6,3),(7,3),(8,1),(9,3),(10,3),(11,3),(12,1),(13,3),(14,3),(15,3)] [] eB (by kernel_rfl) rfl rfl ?_;simp only[dI,u,d,RR,seval]
  repeat' ((refine cL (fun h=>?_) (fun h=>?_))<;>simp only[h,u,d,aF,RR,seval])
  all_goals
   refine I _ _ (aX ?_ ?_)<;>intro b8
   ·try (cases b8;done)
    all_goals
     have hq:b0=true∨ ¬a1<T.length:=by first|exact .inl h|exact .inr (by have:=aD b8;omega)
     have p:kR b0 a1 (PR.ok (⟨vs,U,W++[b6]⟩:Pg) a1)=c1:=by
      rcases hq with e|e
      ·rw[e]at p⊢;exact p
      rw[Jg,aO e,PR.bind_ok]at p;exact p
     obtain⟨n2,c9⟩: ∃n2:Nat,n2=a1:=⟨_,rfl⟩;rw[←c9]at p d;have c8:n≤n2:=by omega
     have c0:n2≤T.length:=by omega
     refine bN fun l5 m8 o j=>?_;have J:=o 0;have L:=o 2;have N:=o 3;have i:=j y;have C:=j F;have t:=j z;simp only[u,A,B,f,d,g,RR,seval]at J L N i C t;have a0:bC [0,2,3] d5 l5:=bC.same o (by repeat (first|exact a0|refine bC.upd rfl ?_));have S:=(j y).trans S;have E:=E.same j;have u:=J;have A:=L;have B:=N;have f:=i;have d:=C;have g:=t;have X:m8 z=some (.rows 3 [[.isl 1 (vs.map bT), .isl 2 (U.map Ar.row)]++f6::[]]):=g;refine iE E X (fun x l=>by simp only[bJ,bL,dD]at l;rcases l with rfl|rfl<;>exact bS rfl) (fun x l=>by cases l) Z fun m3 h4 P Y R=>?_;have A:=(P 2 (by rw[A];exact bS rfl)).trans A;have B:=(P 3 (by rw[B];exact bS rfl)).trans B;have d:=R F _ _ a8 (E.offsz d (by decide)) (fun r O x l=>by simp only[bE]at O;subst O;simp only[bJ,bL,dD]at l;rcases l with rfl|rfl|rfl<;>exact bS rfl) d;have f:=R y _ _ a3 (E.offsz f (by decide)) (fun r O x l=>by simp only[bE]at O;subst O;simp only[bJ,bL,dD]at l;rcases l with rfl|rfl|rfl<;>exact bS rfl) f;have g:h4 z=some (.rows 3 [[.isl 1 (vs.map bT), .isl 2 (U.map Ar.row), .isl 5 ((W++[b6]).map Fu.row)]]):=Y;clear Y X P R;refine aA fun K I=>?_;simp only[*,RR,seval];apply I;refine aP ?_;simp only[aY,aK,bP,A,RR,seval];refine iO (by(simp only[d,d4,aS,seval];done)) p ?_ c8 c0;exact jE.refl _
   try (cases b8;done)
   all_goals
    have b5:b0=false:=by simpa using h
    have i4:a1<T.length:=by have:=aE b8;omega
    rw[JL T vs U _ a1 i4]at p;refine aL ?_;simp only[RR];refine aM ?_;simp only[u,RR,seval];refine dU (fM F hT a1 b0 e5 zV (by decide)) d trivial fun n6 d2 d3 t4 b9 i3 e6 i8 c7=>?_;have p:=dA p b9;have i:=c7 y _ a4 f;have S:=(i.trans f.symm).trans S;have t:=c7 z _ a5 g;have f:=i;have g:=t;have E:=dZ.kp E d (by decide) c7;have d:=i8;simp only[RR,seval];have p1:=Tf b5 e5 e6 i3 b9 fun a m' h=>by have:=fD h (by decide);omega
    have p2:Nx T a1 b0≤Nx T m V:=by rw[b5,c4];unfold Nx;simp;omega
    have i0:d3=false→a1<d2:=fun e=>by
     rw[e,b5,nH,nH]at b9;have:=fD b9.symm (by decide);omega
    refine h7 (Nx T d2 d3) _ _ (by omega) ⟨S,d2,d3,W++[b6],_,rfl,by omega,e6,by simp only[aB,aJ,aT];omega,fun e=>by have:=i0 e;simp only[aB,aJ,aT];omega,p,E,g,d⟩ (by repeat (first|exact a0|refine bC.upd rfl ?_))
 have j0:=hc;have b5:V=true:=by simpa using j0
 have p:kR V m (Py T (vs,U) m)=c1:=by subst b5;exact p
 clear b5 j0;refine cH ?_;simp only[RR,seval];refine bN fun r8 m9 o j=>?_;have J:=o 0;have L:=o 2;have N:=o 3;have i:=j y;have C:=j F;have t:=j z;simp only[u,A,B,f,d,g,RR,seval]at J L N i C t;have H:=H.same j;have D:=D.same j;have u:=J;have A:=L;have B:=N;have f:=i;have d:=C;have g:=t;rw[P0]at p;have X:m9 z=some (.rows 3 [[]++v1::[v2, .nsl]]):=g;refine iE H X (fun x l=>by cases l) (fun x l=>by simp only[bJ,bL,dD]at l;rcases l with rfl|rfl;exact P6 H D (by decide);exact bS rfl) Z fun m0 d7 P Y R=>?_;have u:=(P 0 (by rw[u];exact bS rfl)).trans u;have A:=(P 2 (by rw[A];exact bS rfl)).trans A;have B:=(P 3 (by rw[B];exact bS rfl)).trans B;have d:=R F _ _ a8 (H.offsz d (by decide)) (fun r O x l=>by simp only[bE]at O;subst O;simp only[bJ,bL,dD]at l;rcases l with rfl|rfl|rfl<;>exact bS rfl) d;have f:=R y _ _ a3 (H.offsz f (by decide)) (fun r O x l=>by simp only[bE]at O;subst O;simp only[bJ,bL,dD]at l;rcases l with rfl|rfl|rfl<;>exact bS rfl) f;have D:=D.thru H (by decide) g (by decide) (Yg _) R;have g:d7 z=some (.rows 3 [[.isl 1 (vs.map bT),v2, .nsl]]):=Y;clear Y X P R;have X:d7 z=some (.rows 3 [[.isl 1 (vs.map bT)]++v2::[.nsl]]):=g;refine iE D X (fun x l=>by simp only[bJ,bL,dD]at l;rcases l with rfl;exact bS rfl) (fun x l=>by simp only[bJ,bL,dD]at l;rcases l with rfl;exact bS rfl) g8 fun m1 h2 P Y R=>?_;have u:=(P 0 (by rw[u];exact bS rfl)).trans u;have A:=(P 2 (by rw[A];exact bS rfl)).trans A;have B:=(P 3 (by rw[B];exact bS rfl)).trans B;have d:=R F _ _ a8 (D.offsz d (by decide)) (fun r O x l=>by simp only[bE]at O;subst O;simp only[bJ,bL,dD]at l;rcases l with rfl|rfl|rfl<;>exact bS rfl) d;have f:=R y _ _ a3 (D.offsz f (by decide)) (fun r O x l=>by simp only[bE]at O;subst O;simp only[bJ,bL,dD]at l;rcases l with rfl|rfl|rfl<;>exact bS rfl) f;have g:h2 z=some (.rows 3 [[.isl 1 (vs.map bT), .isl 2 (U.map Ar.row), .nsl]]):=Y;clear Y X P R;have Z:Al.off AV.nsl z:=fun _ _ h=>by cases h
 refine aA fun K I=>?_;simp only[u,RR,seval];refine dU (fM F hT m V hm zV (by decide)) d trivial fun n5 e9 f7 t5 i1 o4 i5 i6 e4=>?_;have p:=dA p i1;have i:=e4 y _ a4 f;have t:=e4 z _ a5 g;have f:=i;have g:=t;have d:=i6;simp only[RR,seval];refine I _ _ (bN fun r9 n0 o j=>?_);have J:=o 0;have L:=o 2;have N:=o 3;have i:=j y;have C:=j F;have t:=j z;simp only[u,A,B,f,d,g,RR,seval]at J L N i C t;have u:=J;have A:=L;have B:=N;have f:=i;have d:=C;have g:=t;refine aQ (iP [0,2,3] (Nx T e9 f7) (fun k fr M=>M y=n0 y∧(∃(m:Nat) (V:Bool) (W:List Fu) (v:AV),k=Nx T m V∧n≤m∧m≤T.length∧W.length≤m+1∧(V=false→W.length≤m)∧kR V m (Ee T vs U W m)=c1∧dZ 5 v (W.map Fu.row) M∧M z=some (.rows 3 [[.isl 1 (vs.map bT), .isl 2 (U.map Ar.row),v]])∧M F=some (.rows 3 [[.isl 4 (T.map fX.row), .int .i64 (m:Nat), .bool V]]))) ⟨rfl,e9,f7,[], .nsl,rfl,by omega,i5,cN _,fun _=>cN _,p, .inl ⟨rfl,rfl⟩,g,d⟩ ?_);rintro k d6 t6 ⟨i,m,V,W,v3,rfl,j9,hm,h8,h9,p,E,g,d⟩ a7 K2 h7;have u:=(a7 0 rfl).trans u;have A:=(a7 2 rfl).trans A;have B:=(a7 3 rfl).trans B;have f:=i.trans f;have a0:=bC.refl [0,2,3] d6;have S:=i;clear a7;have Z:=E.offsz g (by decide);have q3:=E.one1;have n7:=E.cells;refine aQ (aH (aA fun K I=>?_));simp only[u,d,RR,seval];refine I _ _ (aX ?_ ?_)<;>intro c4
 ·have p:kR V m (PR.ok (⟨vs,U,W⟩:Pg) m)=c1:=by rw[c4]at p⊢;exact p
  obtain⟨n2,c9⟩: ∃n2:Nat,n2=m:=⟨_,rfl⟩;rw[←c9]at p d;have c8:n≤n2:=by omega
  have c0:n2≤T.length:=by omega
  refine bN fun l6 n1 o j=>?_;have J:=o 0;have L:=o 2;have N:=o 3;have i:=j y;have C:=j F;have t:=j z;simp only[u,A,B,f,d,g,RR,seval]at J L N i C t;have a0:bC [0,2,3] d6 l6:=bC.same o (by repeat (first|exact a0|refine bC.upd rfl ?_));have S:=(j y).trans S;have E:=E.same j;have u:=J;have A:=L;have B:=N;have f:=i;have d:=C;have g:=t;have X:n1 z=some (.rows 3 [[.isl 1 (vs.map bT), .isl 2 (U.map Ar.row)]++v3::[]]):=g;refine iE E X (fun x l=>by simp only[bJ,bL,dD]at l;rcases l with rfl|rfl<;>exact bS rfl) (fun x l=>by cases l) Z fun m2 h3 P Y R=>?_;have A:=(P 2 (by rw[A];exact bS rfl)).trans A;have B:=(P 3 (by rw[B];exact bS rfl)).trans B;have d:=R F _ _ a8 (E.offsz d (by decide)) (fun r O x l=>by simp only[bE]at O;subst O;simp only[bJ,bL,dD]at l;rcases l with rfl|rfl|rfl<;>exact bS rfl) d;have f:=R y _ _ a3 (E.offsz f (by decide)) (fun r O x l=>by simp only[bE]at O;subst O;simp only[bJ,bL,dD]at l;rcases l with rfl|rfl|rfl<;>exact bS rfl) f;have g:h3 z=some (.rows 3 [[.isl 1 (vs.map bT), .isl 2 (U.map Ar.row), .isl 5 (W.map Fu.row)]]):=Y;clear Y X P R;refine aA fun K I=>?_;simp only[*,RR,seval];apply I;refine aP ?_;simp only[aY,aK,bP,A,RR,seval];refine iO (by(simp only[d,d4,aS,seval];done)) p ?_ c8 c0;exact jE.refl _
 unfold Ee at p;have h8:=h9 c4;refine aL ?_;simp only[RR];refine bN fun l7 t7 o j=>?_;have J:=o 0;have L:=o 2;have N:=o 3;have i:=j y;have C:=j F;have t:=j z;simp only[u,A,B,f,d,g,RR,seval]at J L N i C t;have a0:bC [0,2,3] d6 l7:=bC.same o (by repeat (first|exact a0|refine bC.upd rfl ?_));have S:=(j y).trans S;have E:=E.same j;have u:=J;have A:=L;have B:=N;have f:=i;have d:=C;have g:=t;refine aG fun K I=>?_;refine bA (fun x=>x≠z∧x≠y) [(0,3),(1,0),(2,3),(3,1),(4,2),(5,1),(6,3)] [(7,1)] eB (by kernel_rfl) rfl rfl ?_;simp only[*,dI,fP,RR,seval];refine dU (Ya F hT m V hm) d (by trivial) fun b6 a1 b0 t8 i2 o5 e5 i7 c6=>?_;have p:=dA p i2;have i:=c6 y _ a4 f;have S:=(i.trans f.symm).trans S;have t:=c6 z _ a5 g;have f:=i;have g:=t;have E:=dZ.kp E d (by decide) c6;have d:=i7;simp only[XO,RR,seval];refine jC E (by simp only[aF,aJ,aT];omega) (fun b e=>by(repeat' apply And.intro)<;>(intro c;subst c;first|exact Z _ _ e|exact E.nb' f (by decide) e)) fun f6 t9 d1 a2 c2=>?_;have b1:=c2 z Z (by rw[g];exact bY _);simp only[B,RR,seval];have i:=a2 y _ f (by exact(E).nb' f (by decide));have S:=(i.trans f.symm).trans S;have f:=i;have C:=a2 F _ d (by exact(E).nb' d (by decide));have d:=C;have t:=a2 z _ g (by exact(E).nb' g (by decide));have g:=t;have c5:=d1.cells;have d0:=d1.one1;simp only[c5,d0,bX,List.drop,g,RR,seval];refine I _ _ (aH (bN fun l8 n3 o j=>?_));have J:=o 0;have L:=o 2;have N:=o 3;have i:=j y;have C:=j F;have g:=j z;simp only[u,A,B,f,d,a8,a3,RR,seval]at J L N i C g;have a0:bC [0,2,3] d6 l8:=bC.same o (by repeat (first|exact a0|refine bC.upd rfl ?_));have S:=(j y).trans (by(simp only[a3,aS,seval];exact S));have E:dZ 5 f6 ((W++[b6]).map Fu.row) n3:=by rw[cP];exact(d1.off b1 _).same j
 have Z:=b1;have u:=J;have A:=L;have B:=N;have f:=i;have d:=C;refine aG fun K I=>?_;refine bA (fun x=>x≠y∧x≠F∧x≠z) [(0,3),(1,3),(2,3),(3,1),(4,3),(5,3),(6,3),(7,3),(8,1),(9,3),(10,3),(11,3),(12,1),(13,3),(14,3),(15,3)] [] eB (by kernel_rfl) rfl rfl ?_;simp only[dI,u,d,RR,seval]
 repeat' ((refine cL (fun h=>?_) (fun h=>?_))<;>simp only[h,u,d,aF,RR,seval])
 all_goals
  refine I _ _ (aX ?_ ?_)<;>intro b8
  ·try (cases b8;done)
   all_goals
    have hq:b0=true∨ ¬a1<T.length:=by first|exact .inl h|exact .inr (by have:=aD b8;omega)
    have p:kR b0 a1 (PR.ok (⟨vs,U,W++[b6]⟩:Pg) a1)=c1:=by
     rcases hq with e|e
     ·rw[e]at p⊢;exact p
     rw[Jg,aO e,PR.bind_ok]at p;exact p
    obtain⟨n2,c9⟩: ∃n2:Nat,n2=a1:=⟨_,rfl⟩;rw[←c9]at p d;have c8:n≤n2:=by omega
    have c0:n2≤T.length:=by omega
    refine bN fun l9 n4 o j=>?_;have J:=o 0;have L:=o 2;have N:=o 3;have i:=j y;have C:=j F;have t:=j z;simp only[u,A,B,f,d,g,RR,seval]at J L N i C t;have a0:bC [0,2,3] d6 l9:=bC.same o (by repeat (first|exact a0|refine bC.upd rfl ?_));have S:=(j y).trans S;have E:=E.same j;have u:=J;have A:=L;have B:=N;have f:=i;have d:=C;have g:=t;have X:n4 z=some (.rows 3 [[.isl 1 (vs.map bT), .isl 2 (U.map Ar.row)]++f6::[]]):=g;refine iE E X (fun x l=>by simp only[bJ,bL,dD]at l;rcases l with rfl|rfl<;>exact bS rfl) (fun x l=>by cases l) Z fun m3 h4 P Y R=>?_;have A:=(P 2 (by rw[A];exact bS rfl)).trans A;have B:=(P 3 (by rw[B];exact bS rfl)).trans B;have d:=R F _ _ a8 (E.offsz d (by decide)) (fun r O x l=>by simp only[bE]at O;subst O;simp only[bJ,bL,dD]at l;rcases l with rfl|rfl|rfl<;>exact bS rfl) d;have f:=R y _ _ a3 (E.offsz f (by decide)) (fun r O x l=>by simp only[bE]at O;subst O;simp only[bJ,bL,dD]at l;rcases l with rfl|rfl|rfl<;>exact bS rfl) f;have g:h4 z=some (.rows 3 [[.isl 1 (vs.map bT), .isl 2 (U.map Ar.row), .isl 5 ((W++[b6]).map Fu.row)]]):=Y;clear Y X P R;refine aA fun K I=>?_;simp only[*,RR,seval];apply I;refine aP ?_;simp only[aY,aK,bP,A,RR,seval];refine iO (by(simp only[d,d4,aS,seval];done)) p ?_ c8 c0;exact jE.refl _
  try (cases b8;done)
  all_goals
   have b5:b0=false:=by simpa using h
   have i4:a1<T.length:=by have:=aE b8;omega
   rw[JL T vs U _ a1 i4]at p;refine aL ?_;simp only[RR];refine aM ?_;simp only[u,RR,seval];refine dU (fM F hT a1 b0 e5 zV (by decide)) d trivial fun n6 d2 d3 u1 b9 i3 e6 i8 c7=>?_;have p:=dA p b9;have i:=c7 y _ a4 f;have S:=(i.trans f.symm).trans S;have t:=c7 z _ a5 g;have f:=i;have g:=t;have E:=dZ.kp E d (by decide) c7;have d:=i8;simp only[RR,seval];have p1:=Tf b5 e5 e6 i3 b9 fun a m' h=>by have:=fD h (by decide);omega
   have p2:Nx T a1 b0≤Nx T m V:=by rw[b5,c4];unfold Nx;simp;omega
   have i0:d3=false→a1<d2:=fun e=>by
    rw[e,b5,nH,nH]at b9;have:=fD b9.symm (by decide);omega
   refine h7 (Nx T d2 d3) _ _ (by omega) ⟨S,d2,d3,W++[b6],_,rfl,by omega,e6,by simp only[aB,aJ,aT];omega,fun e=>by have:=i0 e;simp only[aB,aJ,aT];omega,p,E,g,d⟩ (by repeat (first|exact a0|refine bC.upd rfl ?_))
theorem F9 (c:Nat) (T:List fX) (n:Nat) (w:Bool) (j:n≤T.length) (s:dE):Oh 66 [.str s] c T n w (.int .i64 (RE T s.length n)) n w:=by
 unfold Oh;have b:=mP c T n w;by_cases f:n<T.length
 ·have d:=aC f
  generalize T[n]=t at d;have g:=NS d;have hd:decide ((n:Int)<(T.length:Int))=true:=cV (by omega);have e:RE T s.length n=(t.pos:Int):=by simp [RE,d]
  rw[e];refine bU 28 [.tmp 4] func66 ?_;refine aA fun K a=>?_;simp only[RR,seval];refine a _ _ (aH (aG fun K a=>?_));refine bA (fun x=>x≠c) [(0,3),(1,3),(2,3),(3,1),(4,3),(5,3),(6,3),(7,1),(8,3),(9,3)] [] eB (by kernel_rfl) rfl rfl ?_;simp only[dI,b,aF,hd,RR,seval];refine a _ _ (aX ?_ ?_)<;>intro i
  ·refine aG fun K a=>?_
   refine bA (fun x=>x≠c) [(0,3),(1,3),(2,3),(3,1),(4,3),(5,3),(6,3),(7,1),(8,3),(9,3),(10,1),(11,3)] [] eB (by kernel_rfl) rfl rfl ?_;simp only[dI,b,g,RR,seval];apply a;refine aP ?_;simp only[aY,aK,bP,RR,seval];refine oL b ?_;rfl
  refine aL ?_;try simp only[RR]
  refine aA fun K a=>?_;simp only[RR,seval];apply a;refine aP ?_;simp only[aY,aK,bP,RR,seval];refine oL b ?_;simp_all
 have hd:decide ((n:Int)<(T.length:Int))=false:=bI (by omega);have e:RE T s.length n=(s.length:Int):=by simp [RE,dO (Nat.le_of_not_lt f)]
 rw[e];refine bU 28 [.tmp 4] func66 ?_;refine aA fun K a=>?_;simp only[RR,seval];refine a _ _ (aH (aG fun K a=>?_));refine bA (fun x=>x≠c) [(0,3),(1,3),(2,3),(3,1),(4,3),(5,3),(6,3),(7,1),(8,3),(9,3)] [] eB (by kernel_rfl) rfl rfl ?_;simp only[dI,b,aF,hd,RR,seval];refine a _ _ (bK ?_);refine aL ?_;simp only[RR];refine aA fun K a=>?_;simp only[RR,seval];apply a;refine aP ?_;simp only[aY,aK,bP,RR,seval];refine oL b ?_;rfl
theorem Pq (s:dE) (L:s.length≤1000000):eG dR 38 [.str s] (D6 (D2 s)):=by
 generalize b:D2 s=Z;unfold D2 at b;have y:Al.jE (.agg [.nsl, .nsl, .nsl]) SL.av:=jE.agg MO
 cases hl:Ce s with
 |error x=>
  obtain⟨i,e⟩:=x;rw[hl]at b;simp only at b;subst b;have u:=HH L hl;have P:=IS hl;have hd:decide (e=0)=false:=bI P;refine bU 48 [.cell 2 26, .tmp 3, .tmp 4] func38 ?_;refine aA fun K a=>?_;simp only[RR,seval];refine aN fun l U=>?_;simp only[RR,seval];refine a _ _ (aA fun K a=>?_);simp only[RR,seval];refine aI (u) ?_;simp only[RR,seval];refine a _ _ (aH (aA fun K a=>?_));simp only[hd,RR,seval];refine a _ _ (cM (aA fun K a=>?_));simp only[RR,seval];apply a;refine aP ?_;simp only[aY,aK,bP,RR,seval];refine⟨D6 _,oN,(kY.sub ?_).trans (kY.drop (qK _)),rfl,rfl⟩;exact jE.tup (gK.cons y (gK.refl _))
 |ok T=>
  rw[hl]at b;simp only at b;have u:=MM L hl;have E:=NC hl;refine bU 48 [.cell 2 26, .tmp 3, .tmp 4] func38 ?_;refine aA fun K a=>?_;simp only[RR,seval];refine aN fun l U=>?_;simp only[RR,seval];refine a _ _ (aA fun K a=>?_);simp only[RR,seval];refine aI (u) ?_;simp only[RR,seval];refine a _ _ (aH (aA fun K a=>?_));simp only[RR,seval];refine a _ _ (bK ?_);refine aL ?_;simp only[RR];refine aA fun K a=>?_;simp only[RR,seval];refine aN fun t H=>?_;have X:t≠l:=fun e=>by rw[e]at H;simp only[RR,seval,reduceCtorEq]at H
  have A:=X.symm;simp only[RR,seval];refine a _ _ (aA fun K a=>?_);simp only[RR,seval];refine dU (Z7 t E 0 false (cN _)) (by(simp only[aS,RR,seval];done)) trivial fun p o C M1 c a1 S V R=>?_;rw[nH]at c;have d:=R l _ A (by(simp only[A,aS,seval];rfl));have g:=V;simp only[YW,RR,seval];refine aN fun N I=>?_;have Y:=cR I d;have B:=Y.symm;have M:=cR I g;have z:=M.symm;simp only[RR,seval];refine a _ _ (aH (aA fun K a=>?_));simp only[g,z,RR,seval]
  repeat' ((refine cL (fun h=>?_) (fun h=>?_))<;>simp only[h,g,z,aF,RR,seval])
  all_goals
   refine a _ _ (aX ?_ ?_)<;>intro n
   ·try (cases n;done)
    all_goals
     have j:Z=(SL,RE T s.length o,3):=by
      cases k:C with
      |true=>rw[k,GR]at c;rw[←c]at b;exact b.symm
      |false=>
       rw[k,nH]at c;rw[←c]at b
       have v:o<T.length:=by
        first
        |(rw[k]at h;cases h;done)
        |(have:=aD n;omega)
       simp only[bF v]at b;exact b.symm
     subst j;refine aA fun K a=>?_;simp only[RR,seval];refine gL (F9 t T o C S s) (by(simp only[g,z,aS,seval];done)) trivial fun M2 W G=>?_;have O:=G l _ A (by(simp only[d,B,aS,seval];rfl));have a0:=G N _ M (bO _ _ _);have d:=O;have g:=W;simp only[d,RR,seval];apply a;refine aP ?_;simp only[aY,aK,bP,RR,seval];refine⟨D6 _,oN,(kY.sub ?_).trans (kY.drop (qK _)),rfl,rfl⟩;exact jE.tup (gK.cons y (gK.refl _))
   try (cases n;done)
   all_goals
    have k:C=false:=by simpa using h
    have v: ¬o<T.length:=by have:=aE n;omega
    rw[k,nH]at c;rw[←c]at b;simp only[aO v]at b;have J:=HN E (cN _) c.symm;have D:=BP p J.1 fun f Q=>by have:=(J.2 f Q).1;omega
    rw[Pg.av,Pg.row]at D;refine aL ?_;simp only[RR];refine aH (aA fun K a=>?_);simp only[RR,seval];refine aI (D) ?_;simp only[RR,seval];refine a _ _ (aX ?_ ?_)<;>intro F
    ·have j: ¬fZ p=true:=by simpa using F
     rw[aO j]at b;subst b;refine aA fun K a=>?_;simp only[d,B,RR,seval];apply a;refine aP ?_;simp only[aY,aK,bP,RR,seval];refine⟨D6 _,oN,(kY.sub ?_).trans (kY.drop (qK _)),rfl,rfl⟩;exact jE.tup (gK.cons y (gK.refl _))
    have j:fZ p=true:=by simpa using F
    rw[bF j]at b;subst b;refine aL ?_;simp only[RR];refine aA fun K a=>?_;simp only[d,B,RR,seval];apply a;refine aP ?_;simp only[aY,aK,bP,RR,seval];refine⟨D6 _,oN,(kY.sub ?_).trans (kY.drop (qK _)),rfl,rfl⟩;exact jE.refl _
def YI (s:dE):Option Pg:=match Ce s with
 | .error _=>none
 | .ok T=>match Ef T 0 with
   | .bad _=>none
   | .ok e m=>if m<T.length then none else some e
theorem O2 {s:dE} {e:Pg} (h:YI s=some e) (a:fZ e=true):D2 s=(e,0,0):=by
 unfold YI at h;unfold D2
 cases hl:Ce s with
 |error x=>rw[hl]at h;cases h
 |ok T=>
  rw[hl]at h;simp only at h⊢
  cases hp:Ef T 0 with
  |bad m=>rw[hp]at h;cases h
  |ok x m=>
   rw[hp]at h;simp only at h⊢;by_cases c:m<T.length
   ·rw[bF c]at h;cases h
   rw[aO c]at h⊢;cases h;rw[bF a]
def qR:Fu:=⟨[109,97,105,110],[],[],false,[.mk 1 [97] [.mk 5 0 0 [] []] [] [], .mk 5 [] [.mk 6 14 0 [] [.mk 2 0 0 [97] [], .mk 1 0 256 [] []]] [.mk 3 [] [.mk 2 0 0 [97] []] [] [], .mk 1 [97] [.mk 5 0 0 [] []] [] []] []]⟩
def iV:Pg:=⟨[[97]],[],[qR]⟩
def KE:dE:=[118,97,114,32,97,59,32,102,117,110,99,32,109,97,105,110,40,41,32,123,32,97,32,61,32,103,101,116,40,41,59,32,119,104,105,108,101,32,40,97,32,60,32,50,53,54,41,32,123,32,112,117,116,40,97,41,59,32,97,32,61,32,103,101,116,40,41,59,32,125,32,125]
theorem Sv:fZ iV=true:=by
 simp only[fZ,lC,iV,qR,eD,gW,oS,uJ,lB,oU,oO,lA,Ex.kids,Sm.es,Sm.thn,Sm.els]
 decide+kernel
theorem VN:D2 KE=(iV,0,0):=O2 (by kernel_rfl) Sv
theorem Yq:iV.few:=by
 have b:By ([]:List Ex):=⟨by simp [eY],by simp⟩;have a:zG ([]:List Sm):=⟨by simp [eY],by simp⟩;have c: ∀{e:Ex},e.ok→By [e]:=fun h=>⟨by simp [eY],by simpa using h⟩;have j:(Ex.mk 5 0 0 [] []).ok:= .mk _ _ _ _ _ (by simp [iU]) (by simp [iU]) (by simp [dQ]) (by simp [eY]) b.fit b.all;have d:(Ex.mk 2 0 0 [97] []).ok:= .mk _ _ _ _ _ (by simp [iU]) (by simp [iU]) (by simp [dQ]) (by simp [eY]) b.fit b.all;have i:(Ex.mk 1 0 256 [] []).ok:= .mk _ _ _ _ _ (by simp [iU]) (by simp [iU]) (by simp [dQ]) (by simp [eY]) b.fit b.all;have k:(Ex.mk 6 14 0 [] [.mk 2 0 0 [97] [], .mk 1 0 256 [] []]).ok:= .mk _ _ _ _ _ (by simp [iU]) (by simp [iU]) (by simp [dQ]) (by simp [eY]) (by simp [eY]) (by simp [d,i]);have g:(Sm.mk 1 [97] [.mk 5 0 0 [] []] [] []).ok:= .mk _ _ _ _ _ (by simp [iU]) (by simp [eY]) (c j) a.fit a.all a.fit a.all;have m:(Sm.mk 3 [] [.mk 2 0 0 [97] []] [] []).ok:= .mk _ _ _ _ _ (by simp [iU]) (by simp [eY]) (c d) a.fit a.all a.fit a.all;have n:(Sm.mk 5 [] [.mk 6 14 0 [] [.mk 2 0 0 [97] [], .mk 1 0 256 [] []]] [.mk 3 [] [.mk 2 0 0 [97] []] [] [], .mk 1 [97] [.mk 5 0 0 [] []] [] []] []).ok:= .mk _ _ _ _ _ (by simp [iU]) (by simp [eY]) (c k) (by simp [eY]) (by simp [m,g]) a.fit a.all;have l:qR.ok:=⟨by simp [eY,qR],⟨by simp [eY,qR],by simp [qR]⟩,⟨by simp [eY,qR],by simp [qR]⟩,⟨by simp [eY,qR],by simp [qR,g,n]⟩⟩;refine⟨⟨⟨by simp [eY,iV],by simp [eY,iV]⟩,by simp [eY,iV],by simp [iV],by simp [eY,iV],by simpa [iV]using l⟩,by simp [iV],by simp [iV],by simp [iV],fun f h=>?_⟩;simp only[iV,bE]at h;subst h;refine⟨by simp [qR],by simp [qR], ?_⟩;show lQ [_,_]≤_;simp [lQ,Sm.sz,pB,Ex.sz]
theorem Sr:gZ iV=0:=by
 simp only[gZ,fZ,lC,iV,qR,eD,gW,oS,uJ,lB,oU,oO,lA,lW,nJ,sN,lL,oC,jA,jN,eN,fO,Ex.kids,Sm.es,Sm.thn,Sm.els]
 decide+kernel
theorem O5:iF (fun l=>l.all zC) iV=true:=by
 unfold iF;rw[Sr];simp only[iV,qR,eD,gW,Bv,Sm.kind,Sm.es,Sm.thn,Sm.els,Dl,Ex.kind,Ex.kids]
 decide+kernel
theorem TW:Lib.decDigits 256=[50,53,54]:=by simp [Lib.decDigits]
theorem QQ:iL qR.body=[63,58,97,87,97,50,53,54,32,60,68,97,46,63,58,97,69]:=by
 simp [qR,iL,nY,iI,fL,hY,TW,opS]
theorem XY:BW iV=([63,58,97,87,97,50,53,54,32,60,68,97,46,63,58,97,69,36],0):=by
 unfold BW;rw[bF O5];simp only[iV,QQ];rfl
def zP:Pg:=⟨[],[],[]⟩
theorem XX:BW zP=([],1):=by
 have :iF (fun l=>l.all zC) zP=false:=by simp [iF,zP]
 unfold BW;rw[aO (by rw[this];decide)]
theorem XT:zP.ok:=⟨⟨by simp [eY,zP],by simp [eY,zP]⟩,by simp [eY,zP],by simp [zP],by simp [eY,zP],by simp [zP]⟩
theorem KD:eG dR 27 [] iV.av:=by
 have a:=Pq KE (by decide);rw[VN]at a;have g:iV.av= .agg [.isl 1 (iV.vars.map bT), .isl 2 (iV.arrs.map Ar.row), .isl 5 (iV.funs.map Fu.row)]:=rfl;have h:D6 (iV,0,0)= .tup [iV.av, .int .i64 0, .int .i64 0]:=rfl;rw[h]at a;rw[g]at a⊢;unfold KE at a;generalize iV.vars.map bT=l at *;generalize iV.arrs.map Ar.row=m at *;generalize iV.funs.map Fu.row=n at *;refine bU 10 [.cell 0 26] func27 ?_;refine aA fun K b=>?_;simp only[RR,seval];refine aN fun d k=>?_;simp only[RR,seval];refine b _ _ (aA fun K b=>?_);simp only[RR,seval];refine aI (a) ?_;simp only[RR,seval];refine aN fun f c=>?_;have j:f≠d:=fun e=>by rw[e]at c;simp only[RR,seval,reduceCtorEq]at c
 have i:=j.symm;simp only[RR,seval];refine b _ _ (aA fun K b=>?_);simp only[i,RR,seval];apply b;refine aP ?_;simp only[aY,aK,bP,RR,seval];refine bB.pure ?_;rfl
def GP:Code→dE
 | .seq c d=>match GP c with
   |[]=>GP d
   |l=>l
 | .region _ #[⟨_, .assign (.const (.string s)),_,_,_,_⟩] _=>s.data.toList
 |_=>[]
noncomputable def Sl:dE:=match Tryz.f22.body with
 |some c=>GP c
 |none=>[]
theorem GT:decide ((0:Int)<(Sl.length:Int))=true:=by decide+kernel
theorem Lm:eG dR 22 [] (.str Sl):=by
 refine bU 1 [.tmp 0] func22 ?_;refine aA fun K a=>?_;simp only[RR,seval];refine a _ _ (aA fun K a=>?_);simp only[RR,seval];apply a;refine aP ?_;simp only[aY,aK,bP,RR,seval];exact bB.pure (by kernel_rfl)
theorem OL:lW iV=0:=by
 have h:=Sr;unfold gZ at h;rw[bF Sv]at h;split at h
 ·assumption
 exact h
theorem BH:eG dR 11 [] (.bool true):=by
 have g:=KD;have i:=Qa iV (by rw[Sv];exact JY) (fun _=>by rw[OL];exact HE) fun _=>Xq iV Yq.ok;have j:=Qa zP OI (fun h=>by cases h) fun h=>by cases h
 rw[Sr]at i;rw[show gZ zP=7 by simp [gZ,fZ,zP]]at j;have e:=W5 i j;have c:=Xp iV Yq.ok (fun f b _=>by simp only[iV,bE]at b;subst b;rw[QQ];decide) (by rw[O5];exact e.1);rw[XY]at c;have d:=Xp zP XT (fun f b=>by cases b) (by rw[show iF (fun l=>l.all zC) zP=false by simp [iF,zP]];exact e.2);rw[XX]at d;have o:gK [.agg [.nsl, .nsl, .nsl]] [zP.av]:=gK.cons (jE.agg (gK.cons (jE.nsl 1) (gK.cons (jE.nsl 2) (gK.cons (jE.nsl 5) (gK.refl _))))) (gK.refl _);have k:eG dR 14 [iV.av] (.bool true):=e.1;have m:=Lm;have n:=GT;generalize Sl=q at *;generalize iV.av=p at *;generalize zP.av=r at *;simp only at c d;refine bU 34 [.tmp 0] func11 ?_;refine aA fun K a=>?_;simp only[RR,seval];refine a _ _ (aA fun K a=>?_);simp only[RR,seval];refine aI (g) ?_;simp only[RR,seval];refine aI (c) ?_;simp only[RR,seval];refine a _ _ (aA fun K a=>?_);simp only[RR,seval];refine Rj d o ?_;simp only[RR,seval];refine a _ _ (aA fun K a=>?_);simp only[RR,seval];refine aI (g) ?_;simp only[RR,seval];refine aI (k) ?_;simp only[RR,seval];refine aI (m) ?_;simp only[n,RR,seval];apply a;refine aP ?_;simp only[aY,aK,bP,RR,seval];refine bB.pure ?_;rfl
end Go.Proofs.YtaecpjgmcffliaaGreatDoor
