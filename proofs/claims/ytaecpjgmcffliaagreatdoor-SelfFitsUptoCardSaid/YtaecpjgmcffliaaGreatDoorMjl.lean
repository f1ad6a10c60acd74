/- Mjl -/
import Derived.Test.YtaecpjgmcffliaaGreatDoorMjf
import Derived.Test.YtaecpjgmcffliaaGreatDoorQe
import Derived.Test.YtaecpjgmcffliaaGreatDoorJf
import Derived.Test.YtaecpjgmcffliaaGreatDoorMja
import Derived.Test.YtaecpjgmcffliaaGreatDoorSy2
import Derived.Test.YtaecpjgmcffliaaGreatDoorAl3
set_option linter.unusedSimpArgs false
set_option linter.unusedVariables false
set_option maxRecDepth 10000
set_option maxHeartbeats 8000000
namespace Go.Al
def Gt (cx:Cx) (d:Nat) (rs:dC→Bool×Int) (c:Ex) (t:List Sm) (ow:List Int) (st:RS):Option (Rz (Option Int×List Int)):=
 bindR (nH cx d rs ow c st) fun x st=>if x=0 then some (.val (none,ow) st)else bindR (oS cx d rs ow t st) fun r st=>match r.1 with
  |some v=>some (.val (some v,r.2) st)
  |none=>Af cx d rs r.2 c t st
theorem Xa (cx:Cx) (d:Nat) (b:dC→Bool×Int) (c:Ex) (t:List Sm) (a:List Int) (st:RS):Af cx (d+1) b a c t st=bindR (some (nF cx st)) fun _ st=>Gt cx d b c t a st:=by
 simp only[Af,Gt]<;>rfl
theorem fM.seal {p:Pg} {cx:Cx} {r:Nat} {vv vo:AV} {abs:List Nat} {st:RS} {i:Int} {H:Hp} {E:jV} {N:Nat} {Q:fK} {c:Code} {fr:Fr} (f:fM p cx r vv abs st vo i H)
  (h: ∀g d,(∀j,sX (fr j)=true→g j=fr j)→d r=some (.rows 11 [[.isl 1 (p.vars.map bH), .isl 2 (p.arrs.map Ar.row), .isl 5 (p.funs.map Fu.row), .str cx.inp, .int .i64 cx.fuel,vv, .isl 1 (fN abs st.arrs), .isl 1 (st.out.map sB), .int .i64 st.read, .int .i64 st.ticks, .int .i64 i]])→
   (∀b s l,b≠r→off vo b→(∀r∈l, ∀x∈r,sX x=true)→H b=some (.rows s l)→d b=some (.rows s l))→lW E N c Q g d):lW E N c Q fr H:=by
 have y:H r=some (.rows 11 [[AV.isl 1 (p.vars.map bH), .isl 2 (p.arrs.map Ar.row), .isl 5 (p.funs.map Fu.row), .str cx.inp, .int .i64 cx.fuel,vv, .isl 1 (fN abs st.arrs)]++vo::[.int .i64 st.read, .int .i64 st.ticks, .int .i64 i]]):=f.r;refine gW f.o y (fun x a=>?_) (fun x a=>?_) (f.o.offsz f.r (by decide)) fun g d z A B=>h g d (fun j C=>z j (bU C)) A fun b s l k t u v=>B b s l k t (fun r D x a=>bU (u r D x a)) v
 ·simp only[bK,bM,dB]at a
  rcases a with rfl|rfl|rfl|rfl|rfl|rfl|rfl
  ·exact bU rfl
  ·exact bU rfl
  ·exact bU rfl
  ·exact bU rfl
  ·exact bU rfl
  ·exact fun s b n e=>f.ov s b n e
  exact bU rfl
 simp only[bK,bM,dB]at a;rcases a with rfl|rfl|rfl<;>exact bU rfl
structure Gw (fuel:Nat) (s s':RS):Prop where
 out:s.out<+:s'.out
 t:s.ticks≤s'.ticks
 f:s.ticks≤fuel→s'.ticks≤fuel
theorem Gw.refl (a:Nat) (s:RS):Gw a s s:=⟨qL _,bE _,fun h=>h⟩
theorem Gw.trans {a:Nat} {s s1 s2:RS} (h:Gw a s s1) (b:Gw a s1 s2):Gw a s s2:=⟨h.out.trans b.out,nM h.t b.t,fun x=>b.f (h.f x)⟩
def fP {α:Type} (fuel:Nat) (s:RS) (x:Option (Rz α)):Prop:= ∀o,x=some o→Gw fuel s o.st
theorem fP.none {b:Type} (a:Nat) (s:RS):fP a s (none:Option (Rz b)):=fun _ h=>by cases h
theorem fP.val {c:Type} {b:Nat} {s s':RS} (h:Gw b s s') (a:c):fP b s (some (.val a s')):=fun _ e=>by cases e;exact h
theorem fP.fin {c:Type} {b:Nat} {s s':RS} (h:Gw b s s') (a:Int):fP b s (some (.fin a s':Rz c)):=fun _ e=>by cases e;exact h
theorem fP.bind {i k:Type} {c:Nat} {s:RS} {x:Option (Rz i)} {f:i→RS→Option (Rz k)} (h:fP c s x) (j: ∀a b,fP c b (f a b)):fP c s (bindR x f):=fun o d=>by
 cases x with
 |none=>cases d
 |some r=>
  have g:=h r rfl
  cases r with
  |val a b=>exact g.trans (j a b o d)
  |fin e b=>cases d;exact g
theorem fP.ite {d:Type} {a:Nat} {s:RS} {c:Prop} [Decidable c] {x y:Option (Rz d)} (h:fP a s x) (b:fP a s y):fP a s (if c then x else y):=by
 split
 ·exact h
 exact b
theorem Eu (cx:Cx) (st:RS):fP cx.fuel st (some (nF cx st)):=by
 unfold nF;split
 ·exact fP.fin (Gw.refl _ _) _
 exact fP.val (by exact⟨qL _,Nat.le_succ _,fun _=>by show st.ticks+1≤_;omega⟩) _
theorem QP (cx:Cx) (a:Nat) (st:RS):fP a st (some (zH cx st)):=by
 unfold zH;split
 ·exact fP.val (by exact⟨qL _,bE _,fun h=>h⟩) _
 exact fP.val (Gw.refl _ _) _
theorem FN (a:Nat) (v:Int) (st:RS):fP a st (some (Le v st)):=by
 unfold Le;split
 ·exact fP.fin (Gw.refl _ _) _
 exact fP.val (by exact⟨List.prefix_append _ _,bE _,fun h=>h⟩) _
theorem Xv (a:Nat) (i x:Int) (st:RS):fP a st (Z2 i x st):=by
 unfold Z2;split
 ·exact fP.none _ _
 split
 ·exact fP.val (Gw.refl _ _) _
 exact fP.fin (Gw.refl _ _) _
theorem EY (a:Nat) (p:Bool×Int) (v:Int) (b:List Int) (st:RS):fP a st ((Vf p v b st).map fun r=>Rz.val ((none:Option Int),r.1) r.2):=by
 unfold Vf;split
 ·split
  ·split
   ·exact fP.val (Gw.refl _ _) _
   exact fP.none _ _
  split
  ·exact fP.val (by exact⟨qL _,bE _,fun h=>h⟩) _
  exact fP.none _ _
 exact fP.none _ _
structure WW (cx:Cx) (n:Nat):Prop where
 E: ∀rs ow e st,fP cx.fuel st (nH cx n rs ow e st)
 A: ∀rs ow l st,fP cx.fuel st (Dn cx n rs ow l st)
 C: ∀rs ow i l st,fP cx.fuel st (Rr cx n rs ow i l st)
 S: ∀rs ow e st,fP cx.fuel st (rA cx n rs ow e st)
 L: ∀rs ow l st,fP cx.fuel st (oS cx n rs ow l st)
 W: ∀rs ow c t st,fP cx.fuel st (Af cx n rs ow c t st)
theorem grow (cx:Cx) (n:Nat):WW cx n:=by
 induction n with
 |zero=>
  constructor
  all_goals
   intros
   intro o h;simp [nH,Dn,Rr,rA,oS,Af]at h
 |succ n ih=>
  obtain⟨d,z,A,C,y,B⟩:=ih;constructor
  ·rintro g p ⟨k,o,m,s,l⟩ st
   simp only[nH];refine fP.ite (fP.val (Gw.refl _ _) _) (fP.ite ?_ (fP.ite ?_ (fP.ite (A _ _ _ _ _) (fP.ite (QP _ _ _) ?_))))
   ·cases Vx (g s) p st with
    |none=>exact fP.none _ _
    |some v=>exact fP.val (Gw.refl _ _) _
   ·cases l[0]? with
    |none=>exact fP.none _ _
    |some a=>
     refine fP.bind (d _ _ _ _) fun x st=>fP.ite (fP.bind (Xv _ _ _ _) fun j st=>?_) (fP.none _ _)
     cases(st.arrs[(g s).2.toNat]?).bind fun l=>l[j]? with
     |none=>exact fP.none _ _
     |some v=>exact fP.val (Gw.refl _ _) _
   cases l[0]? with
   |none=>exact fP.none _ _
   |some a=>
    refine fP.ite (fP.bind (d _ _ _ _) fun _ _=>fP.val (Gw.refl _ _) _) ?_
    cases l[1]? with
    |none=>exact fP.none _ _
    |some b=>
     refine fP.ite (fP.bind (d _ _ _ _) fun _ _=>fP.bind (d _ _ _ _) fun _ _=>fP.ite (fP.val (Gw.refl _ _) _) (fP.fin (Gw.refl _ _) _)) ?_;exact fP.bind (d _ _ _ _) fun _ _=>fP.ite (fP.val (Gw.refl _ _) _) (d _ _ _ _)
  ·intro g p l st
   cases l with
   |nil=>simp only[Dn];exact fP.val (Gw.refl _ _) _
   |cons e l=>
    simp only[Dn];exact fP.bind (d _ _ _ _) fun _ _=>fP.bind (z _ _ _ _) fun _ _=>fP.val (Gw.refl _ _) _
  ·intro g p i l st
   simp only[Rr];refine fP.ite (fP.none _ _) ?_
   cases cx.funs[i.toNat]? with
   |none=>exact fP.none _ _
   |some f=>exact fP.ite (fP.none _ _) (fP.bind (z _ _ _ _) fun _ _=>fP.bind (Eu _ _) fun _ _=>fP.bind (y _ _ _ _) fun _ _=>fP.val (Gw.refl _ _) _)
  ·rintro g p ⟨k,s,l,t,u⟩ st
   simp only[rA];refine fP.ite ?_ (fP.ite ?_ (fP.ite ?_ (fP.ite ?_ (fP.ite ?_ (fP.ite ?_ (fP.ite ?_ (fP.val (Gw.refl _ _) _)))))))
   ·cases l[0]? with
    |none=>exact fP.none _ _
    |some a=>exact fP.bind (d _ _ _ _) fun _ _=>EY _ _ _ _ _
   ·cases l[0]? with
    |none=>exact fP.none _ _
    |some a=>
     cases l[1]? with
     |none=>exact fP.none _ _
     |some b=>exact fP.bind (d _ _ _ _) fun _ _=>fP.bind (d _ _ _ _) fun _ st=>fP.ite (fP.bind (Xv _ _ _ _) fun _ _=>fP.val (by exact⟨qL _,bE _,fun h=>h⟩) _) (fP.none _ _)
   ·cases l[0]? with
    |none=>exact fP.none _ _
    |some a=>exact fP.bind (d _ _ _ _) fun _ _=>fP.bind (FN _ _ _) fun _ _=>fP.val (Gw.refl _ _) _
   ·cases l[0]? with
    |none=>exact fP.none _ _
    |some a=>exact fP.bind (d _ _ _ _) fun _ _=>fP.ite (y _ _ _ _) (y _ _ _ _)
   ·cases l[0]? with
    |none=>exact fP.none _ _
    |some a=>exact B _ _ _ _ _
   ·exact fP.bind (A _ _ _ _ _) fun _ _=>fP.val (Gw.refl _ _) _
   cases l[0]? with
   |none=>exact fP.val (Gw.refl _ _) _
   |some a=>exact fP.bind (d _ _ _ _) fun _ _=>fP.val (Gw.refl _ _) _
  ·intro g p l st
   cases l with
   |nil=>simp only[oS];exact fP.val (Gw.refl _ _) _
   |cons s l=>
    simp only[oS];refine fP.bind (C _ _ _ _) fun r st=>?_
    cases r.1 with
    |some v=>exact fP.val (Gw.refl _ _) _
    |none=>exact y _ _ _ _
  intro g p c t st;simp only[Af];refine fP.bind (Eu _ _) fun _ st=>fP.bind (d _ _ _ _) fun x st=>fP.ite (fP.val (Gw.refl _ _) _) (fP.bind (y _ _ _ _) fun r st=>?_)
  cases r.1 with
  |some v=>exact fP.val (Gw.refl _ _) _
  |none=>exact B _ _ _ _ _
def iN {α:Type} (F:Nat) (x y:Option (Rz α)):Prop:= ∀o,x=some o→(match o with
 | .fin e s=>(e≠5∧y=some o)∨(e=5∧F≤s.ticks∧ ∀o',y=some o'→s.out<+:o'.st.out∧s.ticks≤o'.st.ticks)
 | .val _ _=>y=some o)
section
variable {F F' : Nat}
theorem iN.none {a:Type} (y:Option (Rz a)):iN F none y:=fun _ h=>by cases h
theorem iN.val {b:Type} (a:b) (s:RS):iN F (some (.val a s)) (some (.val a s)):=fun _ h=>by cases h;rfl
theorem iN.fin {b:Type} {e:Int} (a:e≠5) (s:RS):iN F (some (.fin e s:Rz b)) (some (.fin e s)):=fun _ h=>by cases h;exact .inl ⟨a,rfl⟩
theorem iN.same {d:Type} {x:Option (Rz d)} (h: ∀s,x≠some (.fin 5 s)):iN F x x:=fun o b=>by
 cases o with
 |val a s=>exact b
 |fin e s=>
  refine .inl ⟨fun c=>?_,b⟩;subst c;exact h s b
theorem iN.bind {l A:Type} {x y:Option (Rz l)} {f g:l→RS→Option (Rz A)} (h:iN F x y) (p: ∀a s,iN F (f a s) (g a s)) (u: ∀a s,fP F' s (g a s)):iN F (bindR x f) (bindR y g):=fun o i=>by
 cases x with
 |none=>cases i
 |some r=>
  have b:=h r rfl
  cases r with
  |val a s=>
   simp only at b;subst b;exact p a s o i
  |fin e s=>
   cases i;simp only at b⊢;rcases b with⟨d,rfl⟩|⟨d,v,n⟩
   ·exact .inl ⟨d,rfl⟩
   refine .inr ⟨d,v,fun z j=>?_⟩
   cases y with
   |none=>cases j
   |some r'=>
    have c:=n r' rfl
    cases r' with
    |val a s'=>
     have k:=u a s' z j;simp only[Rz.st]at c;exact⟨c.1.trans k.out,nM c.2 k.t⟩
    |fin e s'=>cases j;exact c
theorem iN.ite {e:Type} {c:Prop} [Decidable c] {x y a b:Option (Rz e)} (h:iN F x a) (d:iN F y b):iN F (if c then x else y) (if c then a else b):=by
 split
 ·exact h
 exact d
end
structure WV (cx cx':Cx) (n:Nat):Prop where
 E: ∀rs ow e st,iN cx.fuel (nH cx n rs ow e st) (nH cx' n rs ow e st)
 A: ∀rs ow l st,iN cx.fuel (Dn cx n rs ow l st) (Dn cx' n rs ow l st)
 C: ∀rs ow i l st,iN cx.fuel (Rr cx n rs ow i l st) (Rr cx' n rs ow i l st)
 S: ∀rs ow e st,iN cx.fuel (rA cx n rs ow e st) (rA cx' n rs ow e st)
 L: ∀rs ow l st,iN cx.fuel (oS cx n rs ow l st) (oS cx' n rs ow l st)
 W: ∀rs ow c t st,iN cx.fuel (Af cx n rs ow c t st) (Af cx' n rs ow c t st)
theorem H8 {cx b:Cx} (h:cx.fuel≤b.fuel) (st:RS):iN cx.fuel (some (nF cx st)) (some (nF b st)):=by
 intro o a;unfold nF at a;split at a
 ·cases a
  refine .inr ⟨rfl,by assumption,fun d c=>?_⟩;have:=Eu b st d c;exact⟨this.out,this.t⟩
 cases a;simp only[nF];rw[aM (by omega)]
theorem U1 {cx d:Cx} (I:cx.fuel≤d.fuel) (M:d.funs=cx.funs) (O:d.inp=cx.inp) (n:Nat):WV cx d n:=by
 induction n with
 |zero=>
  constructor
  all_goals
   intros
   intro o h;simp [nH,Dn,Rr,rA,oS,Af]at h
 |succ n ih=>
  obtain⟨g,D,E,L,A,G⟩:=ih;obtain⟨B,J,Q,R,y,K⟩:=grow d n;have N: ∀st,zH d st=zH cx st:=fun st=>by simp only[zH,O]
  have H: ∀i x st,iN cx.fuel (Z2 i x st) (Z2 i x st):=fun i x st=>iN.same fun s h=>by
   unfold Z2 at h;split at h
   ·cases h
   split at h<;>cases h
  have P: ∀v st,iN cx.fuel (some (Le v st)) (some (Le v st)):=fun v st=>iN.same fun s h=>by
   unfold Le at h;split at h<;>cases h
  constructor
  ·rintro p z ⟨k,o,m,s,l⟩ st
   simp only[nH,N];refine iN.ite (iN.val _ _) (iN.ite ?_ (iN.ite ?_ (iN.ite (E _ _ _ _ _) (iN.ite ?_ ?_))))
   ·cases Vx (p s) z st with
    |none=>exact iN.none _
    |some v=>exact iN.val _ _
   ·cases l[0]? with
    |none=>exact iN.none _
    |some a=>
     refine iN.bind (F':=d.fuel) (g _ _ _ _) (fun x st=>iN.ite (iN.bind (F':=d.fuel) (H _ _ _) (fun j st=>?_) fun j st=>?_) (iN.none _)) fun x st=>fP.ite (fP.bind (Xv _ _ _ _) fun j st=>?_) (fP.none _ _)
     all_goals cases(st.arrs[(p s).2.toNat]?).bind fun l=>l[j]?
     all_goals first|exact iN.none _|exact iN.val _ _|exact fP.none _ _|exact fP.val (Gw.refl _ _) _
   ·exact iN.same fun s h=>by
     unfold zH at h;split at h<;>cases h
   cases l[0]? with
   |none=>exact iN.none _
   |some a=>
    refine iN.ite (iN.bind (F':=d.fuel) (g _ _ _ _) (fun _ _=>iN.val _ _) fun _ _=>fP.val (Gw.refl _ _) _) ?_
    cases l[1]? with
    |none=>exact iN.none _
    |some b=>
     refine iN.ite (iN.bind (F':=d.fuel) (g _ _ _ _) (fun _ _=>iN.bind (F':=d.fuel) (g _ _ _ _) (fun _ _=>iN.ite (iN.val _ _) (iN.fin (by decide) _)) fun _ _=>fP.ite (fP.val (Gw.refl _ _) _) (fP.fin (Gw.refl _ _) _)) fun _ _=>fP.bind (B _ _ _ _) fun _ _=>fP.ite (fP.val (Gw.refl _ _) _) (fP.fin (Gw.refl _ _) _)) ?_;exact iN.bind (F':=d.fuel) (g _ _ _ _) (fun _ _=>iN.ite (iN.val _ _) (g _ _ _ _)) fun _ _=>fP.ite (fP.val (Gw.refl _ _) _) (B _ _ _ _)
  ·intro p z l st
   cases l with
   |nil=>simp only[Dn];exact iN.val _ _
   |cons e l=>
    simp only[Dn];exact iN.bind (F':=d.fuel) (g _ _ _ _) (fun _ _=>iN.bind (F':=d.fuel) (D _ _ _ _) (fun _ _=>iN.val _ _) fun _ _=>fP.val (Gw.refl _ _) _) fun _ _=>fP.bind (J _ _ _ _) fun _ _=>fP.val (Gw.refl _ _) _
  ·intro p z i l st
   simp only[Rr,M];refine iN.ite (iN.none _) ?_
   cases cx.funs[i.toNat]? with
   |none=>exact iN.none _
   |some f=>
    exact iN.ite (iN.none _) (iN.bind (F':=d.fuel) (D _ _ _ _) (fun _ _=>iN.bind (F':=d.fuel) (H8 I _) (fun _ _=>iN.bind (F':=d.fuel) (A _ _ _ _) (fun _ _=>iN.val _ _) fun _ _=>fP.val (Gw.refl _ _) _) fun _ _=>fP.bind (y _ _ _ _) fun _ _=>fP.val (Gw.refl _ _) _) fun _ _=>fP.bind (Eu _ _) fun _ _=>fP.bind (y _ _ _ _) fun _ _=>fP.val (Gw.refl _ _) _)
  ·rintro p z ⟨k,s,l,t,u⟩ st
   simp only[rA];refine iN.ite ?_ (iN.ite ?_ (iN.ite ?_ (iN.ite ?_ (iN.ite ?_ (iN.ite ?_ (iN.ite ?_ (iN.val _ _)))))))
   ·cases l[0]? with
    |none=>exact iN.none _
    |some a=>
     refine iN.bind (F':=d.fuel) (g _ _ _ _) (fun v st=>?_) fun _ _=>EY _ _ _ _ _
     cases Vf (p s) v z st with
     |none=>exact iN.none _
     |some r=>exact iN.val _ _
   ·cases l[0]? with
    |none=>exact iN.none _
    |some a=>
     cases l[1]? with
     |none=>exact iN.none _
     |some b=>exact iN.bind (F':=d.fuel) (g _ _ _ _) (fun _ _=>iN.bind (F':=d.fuel) (g _ _ _ _) (fun _ st=>iN.ite (iN.bind (F':=d.fuel) (H _ _ _) (fun _ _=>iN.val _ _) fun _ _=>fP.val (by exact⟨qL _,bE _,fun h=>h⟩) _) (iN.none _)) fun _ _=>fP.ite (fP.bind (Xv _ _ _ _) fun _ _=>fP.val (by exact⟨qL _,bE _,fun h=>h⟩) _) (fP.none _ _)) fun _ _=>fP.bind (B _ _ _ _) fun _ _=>fP.ite (fP.bind (Xv _ _ _ _) fun _ _=>fP.val (by exact⟨qL _,bE _,fun h=>h⟩) _) (fP.none _ _)
   ·cases l[0]? with
    |none=>exact iN.none _
    |some a=>exact iN.bind (F':=d.fuel) (g _ _ _ _) (fun _ _=>iN.bind (F':=d.fuel) (P _ _) (fun _ _=>iN.val _ _) fun _ _=>fP.val (Gw.refl _ _) _) fun _ _=>fP.bind (FN _ _ _) fun _ _=>fP.val (Gw.refl _ _) _
   ·cases l[0]? with
    |none=>exact iN.none _
    |some a=>exact iN.bind (F':=d.fuel) (g _ _ _ _) (fun _ _=>iN.ite (A _ _ _ _) (A _ _ _ _)) fun _ _=>fP.ite (y _ _ _ _) (y _ _ _ _)
   ·cases l[0]? with
    |none=>exact iN.none _
    |some a=>exact G _ _ _ _ _
   ·exact iN.bind (F':=d.fuel) (E _ _ _ _ _) (fun _ _=>iN.val _ _) fun _ _=>fP.val (Gw.refl _ _) _
   cases l[0]? with
   |none=>exact iN.val _ _
   |some a=>exact iN.bind (F':=d.fuel) (g _ _ _ _) (fun _ _=>iN.val _ _) fun _ _=>fP.val (Gw.refl _ _) _
  ·intro p z l st
   cases l with
   |nil=>simp only[oS];exact iN.val _ _
   |cons s l=>
    simp only[oS];refine iN.bind (F':=d.fuel) (L _ _ _ _) (fun r st=>?_) fun r st=>?_
    ·cases r.1 with
     |some v=>exact iN.val _ _
     |none=>exact A _ _ _ _
    cases r.1 with
    |some v=>exact fP.val (Gw.refl _ _) _
    |none=>exact y _ _ _ _
  intro p z c t st
  have C: ∀(r:Option Int×List Int) st,fP d.fuel st (match r.1 with |some v=>some (.val (some v,r.2) st)|none=>Af d n p r.2 c t st):=fun r st=>by
   cases r.1 with
   |some v=>exact fP.val (Gw.refl _ _) _
   |none=>exact K _ _ _ _ _
  simp only[Af];refine iN.bind (F':=d.fuel) (H8 I _) (fun _ st=>iN.bind (F':=d.fuel) (g _ _ _ _) (fun x st=>iN.ite (iN.val _ _) (iN.bind (F':=d.fuel) (A _ _ _ _) (fun r st=>?_) fun r st=>C r st)) fun _ _=>fP.ite (fP.val (Gw.refl _ _) _) (fP.bind (y _ _ _ _) C)) fun _ _=>fP.bind (B _ _ _ _) fun _ _=>fP.ite (fP.val (Gw.refl _ _) _) (fP.bind (y _ _ _ _) C)
  cases r.1 with
  |some v=>exact iN.val _ _
  |none=>exact G _ _ _ _ _
def VO:Nat→Nat→Nat
 |0,n=>n+1
 |f+1,n=>if n<10 then 1 else VO f (n/10)+1
theorem MO (n:Nat):(Lib.decDigits n).length≤n+1:=by
 induction n using Nat.strongRecOn with
 |_ n ih=>
  rw[Lib.decDigits];split
  ·simp
  rename_i h;have:=ih (n/10) (by omega);rw[aB,bW];omega
theorem IS: ∀f n:Nat,(Lib.decDigits n).length≤VO f n
 |0,n=>MO n
 |f+1,n=>by
  rw[Lib.decDigits,VO];by_cases h:n<10
  ·rw[dif_pos h,bP h];simp
  rw[dif_neg h,aM h,aB,bW];have:=IS f (n/10);omega
section
open Go.Lib
theorem Ce {P:Program} {W:World} {name:String} {k:IntKind} {zs:List Int} {g:Nat} {t e:TypeId} {n:Nat} (hg:P.globalNamed name=some g) (hty:(P.globals[g]?).map (·.type)=some t) (ht:P.underlying t=some (.array n e)) (he:P.underlying e=some (.int k)) (hce:P.cellsOf e=1) (hct:P.cellsOf t=n):
  ∀{l:List (String×DataW Unit)} {ps:List MemPlace},DataW.LaidVars P W l ps→(name,tabData k zs)∈l→W.var? P name=some (zs.map fun z=>Value.int k z).toArray
 |[],_,_,hm=>by cases hm
 |(nm,d)::rest,ps,h,hm=>by
  obtain⟨g',t',cs,fuel,p,q,hg',ht',hvar,hd,hrest,_⟩:=h;rcases bK.1 hm with hm|hm
  ·cases hm
   obtain rfl:=Option.some.inj (hg.symm.trans hg');obtain rfl:=Option.some.inj (hty.symm.trans ht');rw[hvar,←cells_of_tab ht he hce hct hd]
  exact Ce hg hty ht he hce hct hrest hm
def LK:DataW Unit→Value
 | .lit (.int k z)=> .int k z
 | .lit (.string s)=> .string ⟨s.toArray⟩
 |_=>Go.undef
def W8:DataW Unit→Array Value
 | .agg l=>(l.map LK).toArray
 |_=> #[]
end
end Go.Al
namespace Go.Proofs.YtaecpjgmcffliaaGreatDoor
open Go.Al Go.Proofs.Tryz
section
variable {p : Pg} {cx : Cx} {r : Nat} {vv : AV} {abs : List Nat} {n : Nat}
theorem UQ {a:Rz Int} {o:Rz (Option Int×List Int)} {w1:Int} {f:List Int} {c:Bool} {g:Int} {K:Int→RS→Option (Rz (Option Int×List Int))} {x i:Nat} {wv b:AV} {H j:Hp} {vo:AV} (C: ∀v s,a= .val v s→w1=v) (A: ∀e s,a= .fin e s→e≠0) (d:bindR (some a) (fun x st=>if x=0 then some (Rz.val ((none:Option Int),f) st)else K x st)=some o) (z:c=false) (B:g=0) (D:w1=0)
  (u:H x=some (.rows 4 [[.int .i64 i,wv, .bool c, .int .u32 g]])) (l:hJ vv abs b wv f H) (k:fM p cx r vv abs a.st b (mN a) H) (t:kC r vv abs vo b x wv j H):
  (∀q s,o= .val q s→f=q.2∧c=q.1.isSome∧g=q.1.getD 0)∧(∀e s,o= .fin e s→e≠0)∧H x=some (.rows 4 [[.int .i64 i,wv, .bool c, .int .u32 g]])∧hJ vv abs b wv f H∧fM p cx r vv abs o.st b (mN o) H∧kC r vv abs vo b x wv j H:=by
 cases a with
 |fin e s=>
  obtain rfl:=Option.some.inj (show some (Rz.fin e s)=some o from d);exact⟨(fun _ _ e=>by cases e),(fun _ _ h=>by cases h;exact A _ _ rfl),u,l,k,t⟩
 |val y s=>
  obtain rfl:=C _ _ rfl;simp only[bindR]at d;rw[bP D]at d;cases d;exact⟨(fun _ _ e=>by cases e;exact⟨rfl,z,B⟩),(fun _ _ e=>by cases e),u,l,k,t⟩
theorem Wc (ih:Ab p cx r vv abs n) (hj:Y5 p cx) (i:Nat) (f:dC→Bool×Int) (N:List Int) (e:Sm) (e8:e.kind=5) (st:RS) (vo:AV) (H:Hp) (x:Nat) (wv:AV) (o:Rz (Option Int×List Int)) (he:e.ok) (hU: ∀u∈kI e,UJ p i f u) (a5: ∀u∈fE e.es,UJ p i f u) (e0: ∀u∈dY e.thn,UJ p i f u) (h0: ∀u∈dY e.els,UJ p i f u) (hR:fM p cx r vv abs st vo 0 H) (hW:hJ vv abs vo wv N H) (J: ∀y∈N,eB y) (A:H x=some (.rows 4 [[.int .i64 i,wv, .bool false, .int .u32 0]])) (h:rA cx (n+1) f N e st=some o):
  pK dN 104 [.ptr 11 r 0 0, .ptr 4 x 0 0, .agg e.row] H (sS p cx r vv abs vo x i wv N.length H o):=by
 obtain⟨k,s,l,t,u⟩:=e;have Q:=hR.r;have c9:=he.es;have f3:=he.thn;have i6:=he.els;simp only[Sm.es,Sm.thn,Sm.els,Sm.kind]at c9 f3 i6 a5 e0 h0 e8;have f2:(Sm.mk k s l t u).row=[.int .i64 k, .str s, .isl 5 (l.map Ex.row), .isl 5 (t.map Sm.row), .isl 5 (u.map Sm.row)]:=Sm.row_eq _;rw[f2];clear f2;have j5:x≠r:=fun e=>by rw[e,Q]at A;cases A
 have k2:=j5.symm;simp only[rA]at h;have hV:=fun(j:Nat) (a:Ex) (hj:l[j]?=some a) st vo en H o O h4 h5 h6=>ih.V i f N a st vo en H x wv false 0 o (c9.all _ (aW hj)) (fun u J=>a5 u ((fU (aW hj)).1 u J)) (fun u J=>a5 u ((fU (aW hj)).2 u J)) O h4 J h5 h6;have k0:p.av= .agg [.isl 1 (p.vars.map bH), .isl 2 (p.arrs.map Ar.row), .isl 5 (p.funs.map Fu.row)]:=rfl;obtain⟨HX,c3⟩: ∃X,X=H:=⟨_,rfl⟩;subst e8;simp only[show ¬(5:Int)=1 by decide,show ¬(5:Int)=2 by decide,show ¬(5:Int)=3 by decide,show ¬(5:Int)=4 by decide,dP,cT]at h
 cases hl0:l[0]? with
 |none=>rw[hl0]at h;cases h
 |some c=>
  simp only[hl0]at h;have j9:=pR hl0
  obtain⟨n',rfl⟩: ∃n',n=n'+1:=by
   cases n with
   |zero=>simp [Af]at h
   |succ n'=>exact⟨n',rfl⟩
  rw[Xa]at h;have c7:=aW hl0;have e2:=fun(N:List Int) (J: ∀y∈N,eB y) st vo en H o bk vl O h4 h5 h6=>ih.V i f N c st vo en H x wv bk vl o (c9.all _ c7) (fun u J=>a5 u ((fU c7).1 u J)) (fun u J=>a5 u ((fU c7).2 u J)) O h4 J h5 h6;rw[c.row_eq]at e2;obtain⟨w,hw⟩: ∃w,w=N.length:=⟨_,rfl⟩;rw[←hw];refine bX 251 [] func104 ?_;refine aA fun K g=>?_;simp only[RR,seval];refine aQ fun b5 b0=>?_;have j2:=dG b0 Q;have j3:=j2.symm;have f7:=dG b0 A;have j4:=f7.symm;simp only[RR,seval];refine g _ _ (aA fun K g=>?_);simp only[RR,seval];refine g _ _ (aN (aA fun K g=>?_));simp only[RR,seval];refine g _ _ (bN (aA fun K g=>?_));simp only[RR,seval];refine g _ _ (bN (aA fun K g=>?_));simp only[RR,seval];refine g _ _ (bN (aA fun K g=>?_));simp only[RR,seval];refine g _ _ (bN (aA fun K g=>?_));simp only[RR,seval];refine g _ _ (cL (bT fun F1 M1 a2 P=>?_));have f0:=a2 0;have f1:=a2 1;have f5:=a2 5;have gr:=P r;have gx:=P x;have F:=P b5;simp only[Q,A,j3,j4,RR,seval]at f0 f1 f5 gr gx F;have hM:=funext P;have b6:=(hR.new b0 _).same P;have h8:=(hW.new b0 _).same P;have i8:dV r vv abs vo vo H M1:=by rw[hM];exact(dV.refl _ _ _ _ _).updN b0 _
  have Q:=gr;have A:=gx;have hT:=Bd hj.cx b6;generalize j6:nF cx st=R at h hT;refine aA fun K g=>?_;simp only[f0,RR,seval];refine Bn hT (fun _=>trivial) fun H1 b9 a1 W=>?_;have Q:=a1.r;have A:=b6.keep A (by decide) (by decide) W;have F:=b6.keep F (by decide) (by decide) W;have a7:=h8.keep b6 W;have i9:=(i8.trans W).w x wv
  have e3:(mN R=0∧false=false∧Gt cx n' f c t N R.st=some o)∨(mN R=0∧false=true∧o= .val (some 0,N) R.st)∨(mN R≠0∧o= .fin (mN R) R.st):=by
   cases R with
   |fin e s=>exact .inr (.inr ⟨b9 _ _ rfl,(Option.some.inj (show some (Rz.fin e s)=some o from h)).symm⟩)
   |val q s=>exact .inl ⟨rfl,rfl,h⟩
  simp only[RR,seval];refine g _ _ (bT fun F2 M2 a2 P=>?_);have g0:=a2 0;have g1:=a2 1;have g5:=a2 5;have gr:=P r;have gx:=P x;have d8:=P b5;simp only[f0,f1,f5,Q,A,F,RR,seval]at g0 g1 g5 gr gx d8;have c4:=funext P;have f0:=g0;have f1:=g1;have f5:=g5;have Q:=gr;have A:=gx;have F:=d8;refine aN (iP [0,1,5] (n') (fun d fr M=> ∃Z a3 I C G T,d≤n'∧C.length=w∧(∀y∈C,eB y)∧eB T∧(G=false→T=0)∧fM p cx r vv abs Z a3 I M∧hJ vv abs a3 wv C M∧M x=some (.rows 4 [[.int .i64 i,wv, .bool G, .int .u32 T]])∧M b5=some (.rows 5 [[.int .i64 5, .str s, .isl 5 (l.map Ex.row), .isl 5 (t.map Sm.row), .isl 5 (u.map Sm.row)]])∧kC r vv abs vo a3 x wv HX M∧((I=0∧G=false∧Gt cx d f c t C Z=some o)∨(I=0∧G=true∧o= .val (some T,C) Z)∨(I≠0∧o= .fin I Z))) ⟨R.st,vo,mN R,N,false,0,bE _,hw.symm,J,(by simp [eB]),(fun _=>rfl),(by rw[c4];exact a1),(by rw[c4];exact a7),A,F,(by rw[c4,c3];exact i9),e3⟩ ?_);rintro d F3 M3 ⟨Z,a3,I,C,G,T,e7,c0,b1,c1,a8,a0,b4,A,F,b8,e5⟩ b3 K1 d9;have f0:=(b3 0 rfl).trans f0;have f1:=(b3 1 rfl).trans f1;have f5:=(b3 5 rfl).trans f5;have d6:=bB.refl [0,1,5] F3;clear b3;have Q:=a0.r;clear h e3
  have hA:I=0∧G=false→ ∃B,nH cx d f C c Z=some B∧bindR (some B) (fun x st=>if x=0 then some (Rz.val ((none:Option Int),C) st)else bindR (oS cx d f C t st) fun r st=>match r.1 with |some v=>some (.val (some v,r.2) st)|none=>Af cx d f r.2 c t st)=some o:=fun⟨E,D⟩=>by
   rcases e5 with⟨_,_,h⟩|⟨_,h,_⟩|⟨h,_⟩
   ·unfold Gt at h
    cases h1:nH cx d f C c Z with
    |none=>rw[h1]at h;cases h
    |some B=>rw[h1]at h;exact⟨B,rfl,h⟩
   ·rw[D]at h;cases h
   exact absurd E h
  have h7:=fun B (h1:nH cx d f C c Z=some B) (hen:I=0)=>e2 C b1 Z a3 I _ B G T a0 b4 A (.inl ⟨hen,Xb (Nat.le_succ_of_le e7) h1⟩);have hen:I=0∨ ¬I=0:=by by_cases h:I=0;exact .inl h;exact .inr h
  rcases hen with hen|hen<;>rcases Bool.eq_false_or_eq_true G with hbk|hbk
  all_goals
   refine aI (aA fun K g=>?_);simp only[*,RR,seval]
   all_goals try (obtain⟨B,h1,h2⟩:=hA ⟨hen,hbk⟩;refine lV (h7 B h1 hen) (fun _=>trivial) fun w1 f8 H1 k5 f4 b9 a1 W=>?_;have Q:=a1.r;have f6:=a0.keep A (by decide) (by decide) W;have A:=f6;have h9:=a0.keep F (by decide) (by decide) W;have F:=h9;have a7:=b4.keep a0 W;have d0:=b8.trans (W.w x wv);simp only[RR,seval])
   all_goals
    refine g _ _ (aX ?_ ?_)<;>intro hc
    ·try (cases hc;done)
     all_goals
      have d3:=hc;clear hc;have j1: ¬w1=0:=by simpa using d3
      obtain⟨b,i1,i3⟩: ∃b,uN (mN B) B.st (oS cx d f C t B.st) b∧((∃x s1,B= .val x s1∧bindR (some b) (fun r st=>match r.1 with |some v=>some (Rz.val (some v,r.2) st)|none=>Af cx d f r.2 c t st)=some o)∨(∃e s,B= .fin e s∧b= .fin e s∧o= .fin e s)):=by
       cases B with
       |fin e s=>exact⟨.fin e s, .inr ⟨b9 e s rfl,rfl⟩, .inr ⟨e,s,rfl,rfl,(Option.some.inj (show some (Rz.fin e s)=some o from h2)).symm⟩⟩
       |val y s=>
        obtain rfl:=f4 _ _ rfl;simp only[bindR]at h2;rw[aM j1]at h2
        cases O:oS cx d f C t s with
        |none=>rw[O]at h2;cases h2
        |some b=>rw[O]at h2;exact⟨b, .inl ⟨rfl,O⟩, .inl ⟨_,s,rfl,h2⟩⟩
      have j8:1≤d:=by
       cases d with
       |zero=>simp [nH]at h1
       |succ d=>omega
      have i2:uN (mN B) B.st (oS cx (n'+1) f C t B.st) b:=by
       rcases i1 with⟨E,D⟩|z
       ·exact .inl ⟨E,IL (Nat.le_succ_of_le e7) D⟩
       exact .inr z
      have hL:=ih.L i f C t B.st f8 (mN B) _ x wv G T b f3 e0 a1 a7 b1 A c1 a8 (fun _=>hbk) i2;rw[c0]at hL;refine aL ?_;simp only[RR];refine aN (aA fun K g=>?_);simp only[*,RR,seval];refine Jh hL (fun _=>trivial) fun Y U b2 f9 H2 g1 g2 g3 g4 g5 g6 g7 g8 g9 d7=>?_;have Q:=g9.r;have i0:H2 b5=_:=a1.keepW a7 F (by decide) (by decide) f7 d7;have A:=g7;have F:=i0;have e9:=d0.trans d7
      have e6:(mN b=0∧U=false∧Af cx d f Y c t b.st=some o)∨(mN b=0∧U=true∧o= .val (some b2,Y) b.st)∨(mN b≠0∧o= .fin (mN b) b.st):=by
       rcases i3 with⟨y,s1,rfl,O⟩|⟨e,s,rfl,rfl,h4⟩
       ·cases b with
        |fin e s=>exact .inr (.inr ⟨g6 _ _ rfl,(Option.some.inj (show some (Rz.fin e s)=some o from O)).symm⟩)
        |val q s=>
         obtain⟨q1,q2⟩:=q;obtain⟨E,D,z3⟩:=g5 _ _ rfl;simp only at E D z3;subst E
         cases q1 with
         |none=>exact .inl ⟨rfl,D,O⟩
         |some v=>
          simp only[iW]at z3;subst z3;exact .inr (.inl ⟨rfl,D,(Option.some.inj O).symm⟩)
       exact .inr (.inr ⟨g6 _ _ rfl,h4⟩)
      simp only[RR,seval];apply g;have hen2:mN b=0∨ ¬mN b=0:=by by_cases h:mN b=0;exact .inl h;exact .inr h
      rcases hen2 with hen2|hen2<;>rcases Bool.eq_false_or_eq_true U with hbk2|hbk2
      all_goals
       refine aA fun K g=>?_;simp only[*,RR,seval]
       repeat' ((refine cQ (fun h=>?_) (fun h=>?_))<;>simp only[*,RR,seval])
       all_goals
        refine g _ _ (aX ?_ ?_)<;>intro e4
        ·try (cases e4;done)
         all_goals
          have hE:Af cx d f Y c t b.st=some o:=by
           rcases e6 with⟨_,_,h⟩|⟨_,h,_⟩|⟨h,_⟩
           ·exact h
           ·rw[hbk2]at h;cases h
           exact absurd hen2 h
          obtain⟨d',i4⟩: ∃d',d=d'+1:=⟨d- 1,by omega⟩;have i5:d- 1=d':=by omega
          rw[i4,Xa]at hE;have a4:=g9;rw[hen2]at a4;have e1:=Bd hj.cx a4;generalize j7:nF cx b.st=S at hE e1;refine aG ?_;simp only[f0,RR,seval];refine Bn e1 (fun _=>trivial) fun H3 j0 a6 b7=>?_;have d4:=a4.keep A (by decide) (by decide) b7;have c6:=a4.keep F (by decide) (by decide) b7;have c5:=g8.keep a4 b7;have d1:=e9.trans (b7.w x wv)
          have a9:(mN S=0∧U=false∧Gt cx (d- 1) f c t Y S.st=some o)∨(mN S=0∧U=true∧o= .val (some b2,Y) S.st)∨(mN S≠0∧o= .fin (mN S) S.st):=by
           rw[i5]
           cases S with
           |fin e s=>exact .inr (.inr ⟨j0 _ _ rfl,(Option.some.inj (show some (Rz.fin e s)=some o from hE)).symm⟩)
           |val q s=>exact .inl ⟨rfl,hbk2,hE⟩
          obtain⟨d5,d2⟩: ∃s,s=S.st:=⟨_,rfl⟩;obtain⟨c2,c8⟩: ∃e,e=mN S:=⟨_,rfl⟩;rw[←d2,←c8]at a6 a9;simp only[RR,seval];refine d9 (d- 1) _ _ (by omega) ⟨d5,f9,c2,Y,U,b2,(by omega),g1,g2,g3,g4,a6,c5,d4,c6,d1,a9⟩ (by repeat (first|exact d6|refine bB.upd rfl ?_))
        try (cases e4;done)
        all_goals
         have d4:=A;have c6:=F;have c5:=g8;have a6:=g9;have d1:=e9
         have a9:(mN b=0∧U=false∧Gt cx (d- 1) f c t Y b.st=some o)∨(mN b=0∧U=true∧o= .val (some b2,Y) b.st)∨(mN b≠0∧o= .fin (mN b) b.st):=by
          rcases e6 with⟨E,D,_⟩|z|z
          ·exfalso
           first|exact hen2 E|(rw[hbk2]at D;cases D)
          ·exact .inr (.inl z)
          exact .inr (.inr z)
         obtain⟨d5,d2⟩: ∃s,s=b.st:=⟨_,rfl⟩;obtain⟨c2,c8⟩: ∃e,e=mN b:=⟨_,rfl⟩;rw[←d2,←c8]at a6 a9;refine aL ?_;simp only[RR];refine d9 (d- 1) _ _ (by omega) ⟨d5,f9,c2,Y,U,b2,(by omega),g1,g2,g3,g4,a6,c5,d4,c6,d1,a9⟩ (by repeat (first|exact d6|refine bB.upd rfl ?_))
    try (cases hc;done)
    all_goals
     have d3:=hc;rw[c3]at b8
     try rw[c3]at d0
     refine cC ?_;simp only[RR,seval];simp only[aY,aK,bR,seval]
     first
      |(have hz:w1=0:=by simpa using d3
        have i7:=UQ f4 b9 h2 hbk (a8 hbk) hz f6 a7 a1 d0
        exact aZ.run ⟨C,G,T,f8,rfl,c0,b1,c1,a8,i7⟩)
      |(rcases e5 with⟨E,D,_⟩|⟨E,D,z3⟩|⟨E,D⟩
        ·exfalso
         first|exact hen E|(rw[hbk]at D;cases D)
        ·subst z3;exact aZ.run ⟨C,G,T,a3,rfl,c0,b1,c1,a8,(fun _ _ e=>by cases e;exact⟨rfl,D,rfl⟩),(fun _ _ e=>by cases e),A,b4,(by rw[E]at a0;exact a0),b8⟩
        subst D;exact aZ.run ⟨C,G,T,a3,rfl,c0,b1,c1,a8,(fun _ _ e=>by cases e),(fun _ _ h=>by cases h;exact E),A,b4,a0,b8⟩)
theorem Wg (A:Ab p cx r vv abs n) (t:Y5 p cx) (i:Nat) (a:dC→Bool×Int) (b:List Int) (e:Sm) (st:RS) (vo:AV) (H:Hp) (x:Nat) (wv:AV) (o:Rz (Option Int×List Int)) (l:e.ok) (j: ∀u∈kI e,UJ p i a u) (c: ∀u∈fE e.es,UJ p i a u) (d: ∀u∈dY e.thn,UJ p i a u) (f: ∀u∈dY e.els,UJ p i a u) (g:fM p cx r vv abs st vo 0 H) (k:hJ vv abs vo wv b H) (v: ∀y∈b,eB y) (z:H x=some (.rows 4 [[.int .i64 i,wv, .bool false, .int .u32 0]])) (h:rA cx (n+1) a b e st=some o):
  pK dN 104 [.ptr 11 r 0 0, .ptr 4 x 0 0, .agg e.row] H (sS p cx r vv abs vo x i wv b.length H o):=by
 by_cases k1:e.kind=1
 ·exact U7 A t i a b e k1 st vo H x wv o l j c d f g k v z h
 by_cases B:e.kind=2
 ·exact We A t i a b e B st vo H x wv o l j c d f g k v z h
 by_cases k3:e.kind=3
 ·exact U9 A t i a b e k3 st vo H x wv o l j c d f g k v z h
 by_cases k4:e.kind=4
 ·exact HI A t i a b e k4 st vo H x wv o l j c d f g k v z h
 by_cases C:e.kind=5
 ·exact Wc A t i a b e C st vo H x wv o l j c d f g k v z h
 by_cases D:e.kind=6
 ·exact Wj A t i a b e D st vo H x wv o l j c d f g k v z h
 by_cases E:e.kind=7
 ·exact U8 A t i a b e E st vo H x wv o l j c d f g k v z h
 exact B1 A t i a b e ⟨k1,B,k3,k4,C,D,E⟩ st vo H x wv o l j c d f g k v z h
theorem TW (B:Y5 p cx): ∀n:Nat,Ab p cx r vv abs n
 |0=>by
  refine⟨?_, ?_, ?_, ?_⟩
  ·intro i j g e st vo D H x wv k t o z b y a c d f h
   rcases h with⟨_,h⟩|⟨u,v⟩
   ·simp [nH]at h
   exact Df (n:=0) (fun h=>absurd h u) B.cx i j g e st vo H x wv k t o z b y a c d f (.inr ⟨u,v⟩)
  ·intro i j g s l st vo H x wv k t o A b y a c d f h
   simp [Rr]at h
  ·intro i j g e st vo H x wv o z b u v I a c d f h
   simp [rA]at h
  intro i j g l st vo D H x wv k t o A b a c d f G F E h;rcases h with⟨_,h⟩|⟨u,v⟩
  ·simp [oS]at h
  exact Dc (n:=0) (fun h=>absurd h u) i j g l st vo H x wv k t o A b a c d f G F E (.inr ⟨u,v⟩)
 |n+1=>by
  have C:=TW B n;refine⟨?_, ?_, ?_, ?_⟩
  ·intro i j g e st vo D H x wv k t o z b y a c d f h
   exact Df (fun _=>C) B.cx i j g e st vo H x wv k t o z b y a c d f h
  ·intro i j g s l st vo H x wv k t o A b y a c d f h
   exact B7 C B i j g s l st vo H x wv k t o A b y a c d f h
  ·intro i j g e st vo H x wv o z b u v I a c d f h
   exact Wg C B i j g e st vo H x wv o z b u v I a c d f h
  intro i j g l st vo D H x wv k t o A b a c d f G F E h;exact Dc (fun _=>C) i j g l st vo H x wv k t o A b a c d f G F E h
end
theorem Zr {p:Pg} (i:p.few) (h:iE p=0) (j:Nat) (g:Fu) (a:p.funs[j]?=some g) (u:Us) (f:u∈dY g.body):UJ p j (FD (oD p) (HL g)) u:=by
 obtain⟨l,k,e,d⟩:=Am h;simp only[kB,aU]at e;simp only[qS,aU]at d;have b:=(nL p p.funs 0 e.2 j g a).2;have c:=Vs p p.funs 0 d.1 j g a;rw[eC,cD]at b c;exact⟨Jw p i j (bC.1 a).1 u.name,(KX a u.name).1,b u f,c u f⟩
theorem Zt {p:Pg} (h:iE p=0) (g:Fu) (b:p.funs[p.funs.length- 1]?=some g):g.params.length=0:=by
 obtain⟨_,_,_,a⟩:=Am h;simp only[qS,aU,zC]at a;have:=a.2;rw[b]at this;simp only[aU,bO]at this;exact this.1.2
theorem UZ {p:Pg} (d:JY p) (inp:dC) (j:inp.length≤2000000) (a:Int) (i:iK a):NH (Z1 p inp a):=by
 have e:((Z1 p inp a).fuel:Int)=if a<0 then 0 else a:=by
  show(((if a<0 then 0 else a).toNat:Nat):Int)=_;split<;>omega
 refine⟨j,by have:=i.2;split at e<;>omega,fun f b=>?_,fun f b=>?_⟩
 ·obtain⟨g,c,rfl⟩:=kQ.1 b
  have:=d.fs g c;show g.params.length+g.locs.length≤_;omega
 obtain⟨g,c,rfl⟩:=kQ.1 b;exact(d.ok.funs g c).body
theorem KB (p:Pg) (Z:JY p) (j6: ∀(j:Nat) g,p.funs[j]?=some g→ ∀u∈dY g.body,UJ p j (FD (oD p) (HL g)) u) (j2: ∀g,p.funs[p.funs.length- 1]?=some g→g.params.length=0) (inp:dC) (i9:inp.length≤2000000) (S:Int) (i6:iK S) {n:Nat} {e:Int} {b2:dC} {t:Nat} (a4:PY (Z1 p inp S) n p.vars.length (p.arrs.map fun a=>a.size.toNat)=some (e,b2,t)):
  eH dN 18 [p.av, .str inp, .int .i64 S] (TS e b2 t):=by
 have c7:((Z1 p inp S).fuel:Int)=if S<0 then 0 else S:=by
  show(((if S<0 then 0 else S).toNat:Nat):Int)=_;split<;>omega
 have d:=UZ Z inp i9 S i6;have hj:Y5 p (Z1 p inp S):=⟨rfl,d,j6,Z.f⟩;have f0:p.funs.length- 1<p.funs.length:=by have:=Z.f1;omega
 have b4:=aD f0;have i8:=Z.fs _ (bV f0);have j5:=j2 _ b4;generalize p.funs[p.funs.length- 1]=g at b4 i8 j5
 have f4:(Z1 p inp S).main=some (Sl (oD p) g):=by
  show(p.funs.map (Sl (oD p)))[(p.funs.map (Sl (oD p))).length- 1]?=_;rw[aE,dH,b4];rfl
 obtain⟨O,c6,X⟩: ∃o,oS (Z1 p inp S) n (FD (oD p) (HL g)) ([]++List.replicate g.locs.length 0) g.body (RS.init p.vars.length (p.arrs.map fun a=>a.size.toNat))=some o∧IM o=(e,b2,t):=by
  unfold PY at a4;rw[f4]at a4;simp only[cA,bI]at a4;have hw:(Sl (oD p) g).words=g.locs.length:=by show g.params.length+g.locs.length=_;omega
  rw[hw]at a4;exact a4
 clear a4 f4;have j0:RS.init p.vars.length (p.arrs.map fun a=>a.size.toNat)=⟨List.replicate p.vars.length 0,p.arrs.map zz,0,[],0⟩:=by simp [RS.init,zz,List.map_map]
 rw[j0]at c6;have hB:=fun(r:Nat) (vv:AV) abs H hR=>Bg (vv:=vv) (abs:=abs) (TW (r:=r) hj n) hj (p.funs.length- 1) g b4 [] _ .nsl H .nsl O hR hJ.nil (fun y hy=>by cases hy) (by simp) (by omega) c6;have g8:=Z.sz;have l8:=Z.v;have l0:=Z.a;have l2:=Z.f;have l1:=Z.f1;have e2:IntKind.wrap .i64 ((p.funs.length:Int)- 1)=((p.funs.length- 1:Nat):Int):=by rw[aT _ (by omega)];omega
 have e3:decide ((p.funs.length:Int)=0)=false:=bD (by omega);have e4:(4:Int) *(p.vars.length:Int)≤281474976710656:=by omega
 obtain⟨vs,J,fs⟩:=p;simp only at *;obtain⟨cx,e8⟩: ∃cx,cx=Z1 ⟨vs,J,fs⟩ inp S:=⟨_,rfl⟩;have i5:cx.inp=inp:=by rw[e8];rfl
 rw[←e8]at c6 hB c7 d;have i0:Pg.av ⟨vs,J,fs⟩= .agg [.isl 1 (vs.map bH), .isl 2 (J.map Ar.row), .isl 5 (fs.map Fu.row)]:=rfl;rw[i0];have l3:=d.inp;refine bX 76 [.cell 6 40] func18 ?_;refine aA fun K G=>?_;simp only[RR,seval];refine aQ fun L l6=>?_;simp only[RR,seval];refine aQ fun F f9=>?_;have k7:F≠L:=fun e=>by rw[e]at f9;simp only[RR,seval,reduceCtorEq]at f9
 have d5:=k7.symm;simp only[RR,seval];refine G _ _ (aI (aA fun K G=>?_));simp only[d5,e3,aE,RR,seval];refine G _ _ (bN ?_);refine aL ?_;simp only[RR];refine aI (aA fun K G=>?_);simp only[RR,seval];refine G _ _ (bT fun F1 M1 I U=>?_);have f1:=I 1;have f2:=I 2;have N:=I 3;have C:=I 6;have d9:=I 15;have A:=U L;have z:=U F;simp only[d5,RR,seval]at f1 f2 N C d9 A z;refine iV (fun fr M=>bB [1,3,6] F1 fr∧M L=M1 L∧M F=M1 F∧fr 2= .int .i64 (cx.fuel:Int)) (fun k9 e5=>?_) ?_
 ·have d6:=bB.refl [1,3,6] F1
  have d7:M1 L=M1 L:=rfl;have d8:M1 F=M1 F:=rfl;refine dS _ d9 (fun c4=>?_) (fun c4=>?_)
  ·have c8:(cx.fuel:Int)=0:=by rw[c7,bP (aF c4)]
   refine aG ?_;simp only[RR,seval];refine e5 _ _ ⟨(by repeat (first|exact d6|refine bB.upd rfl ?_)),d7,d8,(by rw[c8];rfl)⟩
  have c8:(cx.fuel:Int)=S:=by rw[c7,aM (aH c4)]
  refine aL ?_;simp only[RR];refine e5 _ _ ⟨(by repeat (exact d6)),d7,d8,(by rw[c8];exact f2)⟩
 rintro F2 M2 ⟨Y,V,W,f2⟩;have f1:=(Y 1 rfl).trans f1;have N:=(Y 3 rfl).trans N;have C:=(Y 6 rfl).trans C;have A:=V.trans A;have z:=W.trans z;clear Y;simp only[RR,seval];refine aC fun K G=>?_;refine bF (fun x=>x≠L∧x≠F) [(0,0),(1,3),(2,3),(3,3),(4,1),(5,3),(6,1),(7,3),(8,1),(9,3)] [] eP (by kernel_rfl) rfl rfl ?_;simp only[eM,gL,f1,N,f2,A,d5,e4,aE,RR,seval];refine aQ fun Q f5=>?_;have k0:=dG f5 A;have h4:=k0.symm;have k2:=dG f5 z;have h5:=k2.symm;simp only[RR,seval];refine aQ fun R a1=>?_;have h3:R≠L:=fun e=>by rw[e]at a1;simp only[A,h4,RR,seval,reduceCtorEq]at a1
 have d4:=h3.symm;have k6:R≠F:=fun e=>by rw[e]at a1;simp only[z,h5,RR,seval,reduceCtorEq]at a1
 have a0:=k6.symm;have k5:R≠Q:=fun e=>by rw[e]at a1;simp only[RR,seval,reduceCtorEq]at a1
 have d3:=k5.symm;simp only[RR,seval];refine G _ _ (aI (aA fun K G=>?_));simp only[RR,seval];refine G _ _ (bT fun F3 M3 I U=>?_);have g3:=I 3;have g6:=I 6;have D:=I 7;have f8:=I 8;have V:=U L;have W:=U F;have T:=U Q;have B:=U R;simp only[N,C,A,z,h4,h5,d4,a0,d3,RR,seval]at g3 g6 D f8 V W T B;have N:=g3;have C:=g6;have A:=V;have z:=W;refine aN (eT [3,6,7] (J.length) (fun k fr M=>fr 8= .int .i64 (k:Nat)∧M L=M3 L∧M F=M3 F∧M Q=M3 Q∧ ∃va bs,M R=some (.rows 11 [[.isl 1 (vs.map bH), .isl 2 (J.map Ar.row), .isl 5 (fs.map Fu.row), .str inp, .int .i64 cx.fuel, .osl 1 Q vs.length,va, .nsl, .int .i64 0, .int .i64 0, .int .i64 0]])∧Tq L Q bs ((J.take k).map zz) va M) ⟨f8,rfl,rfl,rfl, .nsl,[],B,⟨rfl, .inl ⟨rfl,rfl⟩,(fun i b l h=>by simp at h),List.nodup_nil,(by simp),(by simp),(fun _ _ h=>by cases h),(fun _ _ h=>by cases h),(fun b hb=>by simp at hb)⟩⟩ ?_);rintro k F4 M4 l4 ⟨fx,V,W,a5,va,bs,B,E⟩ Y K0 h8;have N:=(Y 3 rfl).trans N;have C:=(Y 6 rfl).trans C;have D:=(Y 7 rfl).trans D;have f8:=fx;clear fx;have A:=V.trans A;have z:=W.trans z;have T:=a5.trans T;have h6:=bB.refl [3,6,7] F4;have c0:=V;have c1:=W;have b9:=a5;clear Y;refine aI (aA fun K G=>?_);simp only[N,f8,A,aE,RR,seval];refine G _ _ (aX ?_ ?_)<;>intro hc
 ·have b5:k<J.length:=by have:=aF hc;omega
  clear hc;have e9:=aD b5;have g9:J.take (k+1)=J.take k++[J[k]]:=bS b5;have g0:=g8 _ (bV b5);have l5:bs.length≤10000:=by rw[E.l,aE,dJ];omega
  generalize J[k]=a at e9 g9 g0;have hg:=HU e9;have z0:=g0.1;have z1:(4:Int) *a.size≤281474976710656:=by omega
  refine aL ?_;simp only[RR];refine aI (aN ?_);have a3:=E.o;have l7:=E.o7;have j3:=E.ov;refine bF (fun x=>x≠L∧x≠R) [(0,3),(1,3),(2,3),(3,3),(4,0),(5,3),(6,1),(7,3),(8,3),(9,3),(10,1),(11,1),(12,2),(13,1),(14,3),(15,3)] [(16,1)] eP (by kernel_rfl) rfl rfl ?_;simp only[eM,gL,N,D,f8,A,B,h3,hg,z0,z1,RR,seval];refine aQ fun b8 a2=>?_;have j9:R≠b8:=fun e=>by rw[e,a2]at B;cases B
  have n3:L≠b8:=fun e=>by rw[e,a2]at A;cases A
  simp only[RR,seval];have j8:List.replicate a.size.toNat [AV.int .u32 0]=(zz a).map iH:=by simp [zz,iH]
  have j7:(zz a).length=a.size.toNat:=by simp [zz]
  rw[j8];refine jA (a3.upd a2 _) (by have:=Dy bs ((J.take k).map zz) E.l;rw[this,aE,dJ];simp only[aJ,aS];omega) (fun b e=>⟨fun c=>?_,fun c=>?_⟩) fun v' H' b7 b0 i7=>?_
  ·subst c;exact a3.offsz A (by decide) _ _ e
  ·subst c;exact a3.offsz B (by decide) _ _ e
  have i4:=b7.cells;have j4:=b7.one1;have e6:=b0 R _ (by rw[cR _ _ j9];exact B) (a3.offsz B (by decide) _ _);have i2:=b0 L _ (by rw[cR _ _ n3];exact A) (a3.offsz A (by decide) _ _);have i3:=b0 F _ (by rw[cR _ _ (fun e=>by rw[e,a2]at z;cases z)];exact z) (a3.offsz z (by decide) _ _);have i1:=b0 Q _ (by rw[cR _ _ (fun e=>by rw[e,a2]at T;cases T)];exact T) (j3 _ _);have c0:=(i2.trans A.symm).trans c0;have c1:=(i3.trans z.symm).trans c1;have b9:=(i1.trans T.symm).trans b9;rw[←j7]at b7;have h7:=E.snoc (l:=zz a) a2 (by rw[A];exact bY _) (by rw[T];exact bY _) b7 b0 i7 e6 (.rows 11 [[.isl 1 (vs.map bH), .isl 2 (J.map Ar.row), .isl 5 (fs.map Fu.row), .str inp, .int .i64 cx.fuel, .osl 1 Q vs.length,v', .nsl, .int .i64 0, .int .i64 0, .int .i64 0]]);simp only[i4,j4,cA,List.drop,e6,RR,seval];refine aG ?_;simp only[f8,RR,seval];rw[aT _ (by omega)];refine h8 _ _ b5 ⟨by rfl,(by(simp only[d4,aV,seval];exact c0)),(by(simp only[a0,aV,seval];exact c1)),(by(simp only[d3,aV,seval];exact b9)),v',bs++[b8],bG _ _ _,(by rw[g9,cK];exact h7)⟩ (by repeat (first|exact h6|refine bB.upd rfl ?_))
 have j1:k=J.length:=by have:=aH hc;omega
 rw[j1,cZ]at E;refine cC ?_;simp only[RR,seval];refine bT fun F5 M5 I U=>?_;have g3:=I 3;have g6:=I 6;have g7:=I 7;have V:=U L;have W:=U F;have a5:=U Q;have e1:=U R;simp only[N,C,D,A,z,T,B,RR,seval]at g3 g6 g7 V W a5 e1;have E:=E.keep (H':=M5) (fun b o hb=>by rw[U];exact hb);have N:=g3;have C:=g6;have D:=g7;have A:=V;have z:=W;have T:=a5;have B:=e1;have h0:M5 R=some (.rows 11 [[AV.isl 1 (vs.map bH), .isl 2 (J.map Ar.row), .isl 5 (fs.map Fu.row), .str inp, .int .i64 cx.fuel, .osl 1 Q vs.length]++va::[.nsl, .int .i64 0, .int .i64 0, .int .i64 0]]):=B;refine gW E.o h0 (fun x d=>?_) (fun x d=>?_) (E.o.offsz B (by decide)) fun FS HS I B b1=>?_
 ·simp only[bK,bM,dB]at d
  rcases d with rfl|rfl|rfl|rfl|rfl|rfl
  ·exact bU rfl
  ·exact bU rfl
  ·exact bU rfl
  ·exact bU rfl
  ·exact bU rfl
  intro s b n' e';cases e';exact E.ov
 ·simp only[bK,bM,dB]at d
  rcases d with rfl|rfl|rfl|rfl<;>exact bU rfl
 have N:FS 3= .ptr 3 L 0 0:=(I 3 (by rw[N];exact bU rfl)).trans N;have C:FS 6= .ptr 3 F 0 0:=(I 6 (by rw[C];exact bU rfl)).trans C;have D:FS 7= .ptr 11 R 0 0:=(I 7 (by rw[D];exact bU rfl)).trans D;have A:=b1 L _ _ d4 (E.o.offsz A (by decide)) (fun r P x d=>by simp only[bA]at P;subst P;simp only[bK,bM,dB]at d;rcases d with rfl|rfl|rfl<;>exact bU rfl) A;have z:=b1 F _ _ a0 (E.o.offsz z (by decide)) (fun r P x d=>by simp only[bA]at P;subst P;simp only[bK,bM,dB]at d;rcases d with rfl|rfl|rfl<;>exact bU rfl) z;have T:=b1 Q _ _ d3 E.ov (fun r P x d=>by rw[(Ad.1 P).2]at d;simp only[bA]at d;subst d;exact bU rfl) T
 have hR:fM ⟨vs,J,fs⟩ cx R (.osl 1 Q vs.length) bs ⟨List.replicate vs.length 0,J.map zz,0,[],0⟩ .nsl 0 HS:=by
  refine⟨by rw[i5];exact B, .inr ⟨Q,by simp,by simpa [iH]using T⟩,E.l,fun i b l h1 h2=>?_,E.nd,(fun b hb s n' h=>by cases h;exact E.nv hb), .inl ⟨rfl,rfl⟩,(fun _ _ _ _ _ _ h=>by cases h),(fun b hb s n' h=>by cases h),fun x d=>?_,fun l hl=>?_,by simp,cM _,cM _⟩
  ·have c3:=E.a i b l h1 h2
   exact b1 b _ _ (fun e'=>by rw[e',h0]at c3;cases c3) (E.ob b (aW h1)) (fun r P x d=>by obtain⟨y,_,rfl⟩:=kQ.1 P;simp only[iH,bA]at d;subst d;exact bU rfl) c3
  ·rw[(Ad.1 d).2];simp [eB]
  obtain⟨a,h9,rfl⟩:=kQ.1 hl;have:=g8 a h9;refine⟨by simp only[zz,lP];omega,fun x d=>?_⟩;rw[(Ad.1 d).2];simp [eB]
 have hB:=hB _ _ _ _ hR;clear b1 I h0 T B;refine aA fun K G=>?_;simp only[N,D,A,e2,aE,RR,seval];refine tA hB (fun _=>trivial) fun ae H2 ⟨w,k8,g1,g2,g3,g4,g5,g6⟩=>?_;subst g1;have z:=hR.keepW hJ.nil z (by decide) (by decide) a0 g6;have B:=g5.r;simp only[RR,seval];refine G _ _ (aI (aA fun K G=>?_));simp only[D,B,RR,seval];refine G _ _ (aX ?_ ?_)<;>intro e7
 ·have hz:mN O=0:=by simpa using e7
  obtain⟨v0,s0,d2⟩:=rW (o:=O) g4 hz;have a8:e=1∧b2=O.st.out∧t=O.st.ticks:=by rw[d2]at X⊢;simp only[IM,Prod.mk.injEq]at X;exact⟨X.1.symm,X.2.1.symm,X.2.2.symm⟩
  refine aG ?_;simp only[D,B,RR,seval];have a6:=fM.turn (st':=O.st) g5 1 rfl rfl rfl g5.rd g5.tk;have a7:=(cR H2 (some (.rows 11 [[.isl 1 (vs.map bH), .isl 2 (J.map Ar.row), .isl 5 (fs.map Fu.row), .str cx.inp, .int .i64 cx.fuel, .osl 1 Q vs.length, .isl 1 (fN bs O.st.arrs),k8, .int .i64 O.st.read, .int .i64 O.st.ticks, .int .i64 1]])) a0).trans z;have c5:(1:Int)=e:=a8.1.symm;obtain⟨_,d0,d1⟩:=a8;refine fM.seal a6 fun FT HT a9 B c9=>?_;have C:FT 6= .ptr 3 F 0 0:=(a9 6 (by simp only[aV,C,seval];rfl)).trans (by simp only[aV,C,seval]);have D:FT 7= .ptr 11 R 0 0:=(a9 7 (by simp only[aV,D,seval];rfl)).trans (by simp only[aV,D,seval]);have z:=c9 F _ _ a0 (a6.o.offsz a7 (by decide)) (fun r P x d=>by simp only[bA]at P;subst P;simp only[bK,bM,dB]at d;rcases d with rfl|rfl|rfl<;>rfl) a7;have c2:=Ii O.st.out;refine aC fun K G=>?_;refine bF (fun _=>True) [(0,3),(1,3),(2,3),(3,1),(4,3),(5,3),(6,3),(7,1),(8,3),(9,3),(10,3),(11,3),(12,1),(13,3)] [(14,1)] eP (by kernel_rfl) rfl rfl ?_;simp only[eM,C,D,z,B,c2,RR,seval];apply G;refine aO ?_;simp only[aY,aK,bR,C,RR,seval];refine aZ.pure ?_;rw[d0,d1,←c5];rfl
 obtain⟨e0,s0,d2⟩:=rX (o:=O) (by simpa using e7);have a8:e=mN O∧b2=O.st.out∧t=O.st.ticks:=by rw[d2]at X⊢;simp only[IM,Prod.mk.injEq]at X;exact⟨X.1.symm,X.2.1.symm,X.2.2.symm⟩
 have a6:=g5;have a7:=z;have c5:mN O=e:=a8.1.symm;refine aL ?_;simp only[RR];obtain⟨_,d0,d1⟩:=a8;refine fM.seal a6 fun FT HT a9 B c9=>?_;have C:FT 6= .ptr 3 F 0 0:=(a9 6 (by simp only[aV,C,seval];rfl)).trans (by simp only[aV,C,seval]);have D:FT 7= .ptr 11 R 0 0:=(a9 7 (by simp only[aV,D,seval];rfl)).trans (by simp only[aV,D,seval]);have z:=c9 F _ _ a0 (a6.o.offsz a7 (by decide)) (fun r P x d=>by simp only[bA]at P;subst P;simp only[bK,bM,dB]at d;rcases d with rfl|rfl|rfl<;>rfl) a7;have c2:=Ii O.st.out;refine aC fun K G=>?_;refine bF (fun _=>True) [(0,3),(1,3),(2,3),(3,1),(4,3),(5,3),(6,3),(7,1),(8,3),(9,3),(10,3),(11,3),(12,1),(13,3)] [(14,1)] eP (by kernel_rfl) rfl rfl ?_;simp only[eM,C,D,z,B,c2,RR,seval];apply G;refine aO ?_;simp only[aY,aK,bR,C,RR,seval];refine aZ.pure ?_;rw[d0,d1,←c5];rfl
mutual
def lX:Ex→Nat
 | .mk k o n s l=>lE l+(if k=1 then VO 11 n.toNat+1 else if k=2 then s.length else 1)
def lE:List Ex→Nat
 |[]=>0
 |e::l=>lX e+lE l
end
mutual
theorem UK: ∀e:Ex,(gK e).length≤lX e
 | .mk k o n s l=>by
   have h:=GY l;have h2:=IS 11 n.toNat;have h3:((opS[(o- 4).toNat]?).toList).length≤1:=by cases opS[(o- 4).toNat]?<;>simp
   simp only[gK,lX,iD,aB];by_cases c1:k=1
   ·rw[bP c1,bP c1,aB,bW];omega
   rw[aM c1,aM c1];by_cases c2:k=2
   ·rw[bP c2,bP c2];omega
   rw[aM c2,aM c2]
   repeat' split
   all_goals first|(simp only[bW,aS];omega)|omega
theorem GY: ∀l:List Ex,(hY l).length≤lE l
 |[]=>by simp [hY,lE]
 |e::l=>by
  have h1:=UK e;have h2:=GY l;simp only[hY,lE,aB];omega
end
mutual
def lM:Sm→Nat
 | .mk k s l t _=>lE l+(if k=1 then 1+s.length else if k=2∨k=3 then 1 else lB t+3)
def lB:List Sm→Nat
 |[]=>0
 |e::l=>lM e+lB l
end
mutual
theorem UL: ∀e:Sm,(nW e).length≤lM e
 | .mk k s l t u=>by
   have h:=GY l;have h2:=GZ t;simp only[nW,lM];by_cases c1:k=1
   ·rw[bP c1,bP c1];simp only[aB,bW];omega
   rw[aM c1,aM c1];by_cases c2:k=2
   ·rw[bP c2,bP (.inl c2)];simp only[aB,bW];omega
   rw[aM c2];by_cases c3:k=3
   ·rw[bP c3,bP (.inr c3)];simp only[aB,bW];omega
   rw[aM c3,aM (show ¬(k=2∨k=3)from by omega)]
   repeat' split
   all_goals first|(simp only[aB,bW];omega)|omega
theorem GZ: ∀l:List Sm,(iS l).length≤lB l
 |[]=>by simp [iS,lB]
 |e::l=>by
  have h1:=UL e;have h2:=GZ l;simp only[iS,lB,aB];omega
end
theorem Vg:(iS oV).length+1≤2500:=by
 have h:=GZ oV;have h2:lB oV+1≤2500:=aF (by kernel_rfl);omega
theorem Z9 {V:UInt8→Prop} {A:Prop} {l:List Sm} (hs: ∀m∈l,SS V A 1 m) (hl:(iS l++[36]).length≤2500):(∀w∈Hn (uW 0 l++[36]),eB w∧Za w)∧(Hn (uW 0 l++[36])).length=4 *((iS l).length+1):=by
 have hl:(iS l).length+1≤2500:=by rw[aB,bW]at hl;exact hl
 have hb:=RX (N:=2500) (l:=l) (q:=0) (d:=0) (fun m hm q hq=>⟨RV (by decide) (hs m hm) q 0 (by decide) hq,nB (hs m hm) q⟩) (by omega);have hw:=VI (N:=2500) (l:=l) (q:=0) (d:=0) (fun m hm q hq=>⟨XD (by decide) (hs m hm) q 0 (by decide) hq,RV (by decide) (hs m hm) q 0 (by decide) hq,nB (hs m hm) q⟩) (by omega);have hln:=wQ (b:=0) fun x hx=>nB (hs x hx);refine⟨?_, ?_⟩
 ·have :Kw 0 (zl (0:Nat) 0) (uW 0 l++[36]):=by
   refine hw.app ?_;rw[hb];refine mG ?_;rw[(uK (A:=1509949440) (X:=hI 26 0 0 0) (g:=2) (by decide) (by decide) (by decide) (by decide) (by decide) (by decide) (by decide) (by decide)).1];exact lK (by decide) (by decide) (oM (by decide) (by decide) (by decide))
  exact this
 unfold Hn;rw[vB,aB,bW,hln]
theorem Sj {V:UInt8→Prop} {A:Prop} {l:List Sm} (G: ∀m∈l,SS V A 1 m) (y:(iS l++[36]).length≤2500):eH dN 17 [.str (iS l++[36])] (.tup [.agg [.isl 1 ((Hn (uW 0 l++[36])).map iH), .int .i64 4224], .str (uP (Wm (uW 0 l++[36]))), .bool true]):=by
 obtain⟨n,t,F,ht⟩:=FA G y (100 *(((iS l++[36]).length:Int)+100)) (by omega);have p:=KB eY (EQ yX tK) (fun j g v u Q=>Zr yX tK j g v u Q) (fun g v=>Zt tK g v) (iS l++[36]) (by omega) (100 *(((iS l++[36]).length:Int)+100)) ⟨by omega,by omega⟩ F;obtain⟨H,I⟩:=Z9 G y;have C:(Hn (uW 0 l++[36])).length≤16384:=by rw[I];rw[aB,bW]at y;omega
 have z:=JZ (Hn (uW 0 l++[36])) C (fun w R=>(H w R).1)
 have D:Wm (uW 0 l++[36])=[1145390419,((Hn (uW 0 l++[36])).length:Int),4224]++Hn (uW 0 l++[36]):=by
  unfold Wm Hn;rw[vB];simp
 rw[←D]at z;have B:=J1;unfold TS at p;have P:eY.av= .agg [.isl 1 (eY.vars.map bH), .isl 2 (eY.arrs.map Ar.row), .isl 5 (eY.funs.map Fu.row)]:=rfl;rw[P]at p B;generalize eY.vars.map bH=q1 at *;generalize eY.arrs.map Ar.row=q2 at *;generalize eY.funs.map Fu.row=q3 at *;generalize iS l++[36]=s at *;generalize uP (Wm (uW 0 l++[36]))=S at *;generalize(Hn (uW 0 l++[36])).map iH=wr at *;clear F H I C D;have L:IntKind.wrap .i64 ((s.length:Int)+100)=(s.length:Int)+100:=aT _ (by omega);have N:IntKind.wrap .i64 (100 *((s.length:Int)+100))=100 *((s.length:Int)+100):=aT _ (by omega);refine bX 40 [.cell 2 36, .tmp 3, .tmp 4] func17 ?_;refine aA fun K a=>?_;simp only[RR,seval];refine aQ fun c a4=>?_;simp only[RR,seval];refine a _ _ (aA fun K a=>?_);simp only[RR,seval];refine aP (B) ?_;simp only[RR,seval];refine aQ fun d E=>?_;have U:d≠c:=fun e=>by rw[e]at E;simp only[RR,seval,reduceCtorEq]at E
 have J:=U.symm;simp only[RR,seval];refine a _ _ (aI (aA fun K a=>?_));simp only[RR,seval];refine a _ _ (bN ?_);refine aL ?_;simp only[RR];refine aA fun K a=>?_;simp only[L,N,RR,seval];refine aP (p) ?_;simp only[RR,seval];refine aQ fun f k=>?_;have X:f≠c:=fun e=>by rw[e]at k;simp only[J,RR,seval,reduceCtorEq]at k
 have T:=X.symm;have Y:f≠d:=fun e=>by rw[e]at k;simp only[RR,seval,reduceCtorEq]at k
 have W:=Y.symm;simp only[RR,seval];refine a _ _ (aA fun K a=>?_);simp only[RR,seval];refine aP (z) ?_;simp only[RR,seval];refine aQ fun i b=>?_;have Z:i≠c:=fun e=>by rw[e]at b;simp only[J,T,RR,seval,reduceCtorEq]at b
 have a5:=Z.symm;have a0:i≠d:=fun e=>by rw[e]at b;simp only[W,RR,seval,reduceCtorEq]at b
 have a6:=a0.symm;have a1:i≠f:=fun e=>by rw[e]at b;simp only[RR,seval,reduceCtorEq]at b
 have a7:=a1.symm;simp only[RR,seval];refine a _ _ (aC fun K a=>?_);refine iV (fun o M=>o 2= .ptr 2 c 0 0∧o 3= .str S∧o 4= .bool true∧M c=some (.rows 2 [[.isl 1 wr, .int .i64 4224]])) (fun a2 O=>?_) ?_
 ·refine Ip (fun x=>x≠d∧x≠f∧x≠i) eP (by kernel_rfl) fun hd=>?_
  refine JM [(0,1),(1,3),(2,0),(3,3),(4,1),(5,3),(6,3),(7,3),(8,3),(9,3),(10,1),(11,3),(12,3)] hd (m:=0) rfl (by kernel_rfl) rfl rfl ?_;simp only[*,eM,gL,RR,seval];refine JO (by kernel_rfl) ?_;simp only[RR,seval];refine O _ _ ⟨?_, ?_, ?_, ?_⟩<;>first|rfl|(simp only[aV,seval];done)
 rintro F1 M1 ⟨f2,f3,f4,a3⟩;simp only[mZ];apply a;refine aO ?_;simp only[*,aY,aK,bR,RR,seval];refine aZ.pure ?_;rfl
theorem KU:G9 eY=(iS oV++[36],0):=by
 unfold G9;rw[bP Gl];rfl
theorem Zu {p:Pg} (k:Yq p) (e:C6 p=true) (h:gZ (fun l=>l.all yA) p=true): ∃f,Aa p f∧(∀m∈f.body,SS (fun c=>[c]∈p.vars) (p.arrs.length=1) 1 m)∧G9 p=(iS f.body++[36],0)∧(iS f.body++[36]).length≤2401∧iE p=0:=by
 obtain⟨f,i⟩:=Gg h;obtain⟨g,b,j⟩:=Vd k.ok h
 have :g=f:=by
  have d:=i.funs;rw[b]at d;injection d
 subst this
 have a:iE p=0:=by
  simp only[gZ,aU,bO]at h;exact h.1
 refine⟨g,i,j, ?_, ?_,a⟩
 ·unfold G9
  rw[bP h,b]
 have o:Gj p≤200:=by
  simp only[C6,aU,jW,bO]at e;rcases e.2 with h2|h2
  ·rw[oL a]at h2;cases h2
  exact h2
 have n:=Et (l:=g.body) fun s a=>G8 (j s a)
 have :mQ g.body≤Gj p:=by
  unfold Gj;rw[b];simp only[xY,D6];omega
 rw[aB,bW];omega
theorem La:eH dN 13 [eY.av] (.tup [.str (iS oV++[36]), .int .i64 0]):=by
 have h:=Oh eY Qs (fun _=>yX) (fun f a _=>by
  simp only[eY,bA]at a;subst a;have:=Vg;show(iS oV).length≤_
  omega)
 rw[KU]at h;exact h
theorem Tj (p:Pg) (d:Yq p):eH dN 4 [p.av] (.bool true):=by
 have n:=W2 p d;have y:=X7;have o:=J1;have v:=La;have Q:(iS oV++[36]).length≤2500:=by rw[aB,bW];exact Vg
 have j:=fun h=>Oh p d.ok (Wy d h) (PQ d);have k4:=fun h=>yH p d.ok (Wy d h);rw[←xZ]at k4;have t:=Zu d;have I:eY.av= .agg [.isl 1 (eY.vars.map bH), .isl 2 (eY.arrs.map Ar.row), .isl 5 (eY.funs.map Fu.row)]:=rfl;rw[I]at v o;generalize eY.vars.map bH=U at *;generalize eY.arrs.map Ar.row=V at *;generalize eY.funs.map Fu.row=W at *;generalize iS oV++[36]=N at *;have J:p.av= .agg [.isl 1 (p.vars.map bH), .isl 2 (p.arrs.map Ar.row), .isl 5 (p.funs.map Fu.row)]:=rfl;rw[J]at n j k4⊢;generalize C6 p=G at *;generalize gZ (fun l=>l.all yA) p=O at *;have x:decide ((2500:Int)<(N.length:Int))=false:=bD (by omega)
 cases G with
 |false=>
  generalize p.vars.map bH=D at *;generalize p.arrs.map Ar.row=E at *;generalize p.funs.map Fu.row=F at *;clear t;refine bX 61 [.tmp 2] func4 ?_;refine aA fun K a=>?_;simp only[RR,seval];refine aQ fun g A=>?_;simp only[RR,seval];refine a _ _ (aA fun K a=>?_);simp only[RR,seval];refine aP (o) ?_;simp only[RR,seval];refine aQ fun i c=>?_;have k:i≠g:=fun e=>by rw[e]at c;simp only[RR,seval,reduceCtorEq]at c
  have b:=k.symm;simp only[RR,seval];refine a _ _ (aA fun K a=>?_);simp only[RR,seval];refine aP (v) ?_;simp only[RR,seval];refine a _ _ (aI (aA fun K a=>?_));simp only[x,RR,seval];refine a _ _ (bN ?_);refine aL ?_;simp only[RR];refine aI (aA fun K a=>?_);simp only[b,RR,seval];refine aP (n) ?_;simp only[RR,seval];refine a _ _ (cL (aA fun K a=>?_));simp only[RR,seval];refine aP (y) ?_;simp only[RR,seval];apply a;refine aO ?_;simp only[aY,aK,bR,RR,seval];refine aZ.pure ?_;rfl
 |true=>
  have j:=j rfl;have k4:=k4 rfl
  cases O with
  |false=>
   generalize p.vars.map bH=D at *;generalize p.arrs.map Ar.row=E at *;generalize p.funs.map Fu.row=F at *;clear t;refine bX 61 [.tmp 2] func4 ?_;refine aA fun K a=>?_;simp only[RR,seval];refine aQ fun g A=>?_;simp only[RR,seval];refine a _ _ (aA fun K a=>?_);simp only[RR,seval];refine aP (o) ?_;simp only[RR,seval];refine aQ fun i c=>?_;have k:i≠g:=fun e=>by rw[e]at c;simp only[RR,seval,reduceCtorEq]at c
   have b:=k.symm;simp only[RR,seval];refine a _ _ (aA fun K a=>?_);simp only[RR,seval];refine aP (v) ?_;simp only[RR,seval];refine a _ _ (aI (aA fun K a=>?_));simp only[x,RR,seval];refine a _ _ (bN ?_);refine aL ?_;simp only[RR];refine aI (aA fun K a=>?_);simp only[b,RR,seval];refine aP (n) ?_;simp only[b,RR,seval];refine aP (k4) ?_;simp only[RR,seval];refine a _ _ (cL (aA fun K a=>?_));simp only[RR,seval];refine aP (y) ?_;simp only[RR,seval];apply a;refine aO ?_;simp only[aY,aK,bR,RR,seval];refine aZ.pure ?_;rfl
  |true=>
   obtain⟨f,_,B,C,P,_⟩:=t rfl rfl;rw[C]at j;have H:=Sj B (by omega);generalize iS f.body++[36]=X at *;generalize uP (Wm (uW 0 f.body++[36]))=R at *;generalize(Hn (uW 0 f.body++[36])).map iH=Y at *;generalize p.vars.map bH=D at *;generalize p.arrs.map Ar.row=E at *;generalize p.funs.map Fu.row=F at *;clear C B t;refine bX 61 [.tmp 2] func4 ?_;refine aA fun K a=>?_;simp only[RR,seval];refine aQ fun g A=>?_;simp only[RR,seval];refine a _ _ (aA fun K a=>?_);simp only[RR,seval];refine aP (o) ?_;simp only[RR,seval];refine aQ fun i c=>?_;have k:i≠g:=fun e=>by rw[e]at c;simp only[RR,seval,reduceCtorEq]at c
   have b:=k.symm;simp only[RR,seval];refine a _ _ (aA fun K a=>?_);simp only[RR,seval];refine aP (v) ?_;simp only[RR,seval];refine a _ _ (aI (aA fun K a=>?_));simp only[x,RR,seval];refine a _ _ (bN ?_);refine aL ?_;simp only[RR];refine aI (aA fun K a=>?_);simp only[b,RR,seval];refine aP (n) ?_;simp only[b,RR,seval];refine aP (k4) ?_;simp only[RR,seval];refine a _ _ (bN ?_);refine aL ?_;simp only[RR];refine aA fun K a=>?_;simp only[b,RR,seval];refine aP (j) ?_;simp only[RR,seval];refine a _ _ (aA fun K a=>?_);simp only[RR,seval];refine aP (H) ?_;simp only[RR,seval];refine aQ fun z u=>?_;have L:z≠g:=fun e=>by rw[e]at u;simp only[b,RR,seval,reduceCtorEq]at u
   have S:=L.symm;have M:z≠i:=fun e=>by rw[e]at u;simp only[RR,seval,reduceCtorEq]at u
   have T:=M.symm;simp only[RR,seval];refine a _ _ (aA fun K a=>?_);simp only[RR,seval];refine aP (y) ?_;simp only[RR,seval];apply a;refine aO ?_;simp only[aY,aK,bR,RR,seval];refine aZ.pure ?_;rfl
section
open Go.Al Go.Lib
theorem C2:Tryz.prog.globalNamed "seedcorn/token.words" =some 0:=by kernel_rfl
theorem MA:(Tryz.prog.globals[0]?).map (·.type)=some 327:=by kernel_rfl
theorem QQ:Tryz.prog.globalNamed "internal/strconv.uint64pow10" =some 1:=by kernel_rfl
theorem UU:(Tryz.prog.globals[1]?).map (·.type)=some 353:=by kernel_rfl
theorem XF:Tryz.prog.underlying 327=some (.array 10 9):=by kernel_rfl
theorem XE:Tryz.prog.underlying 353=some (.array 20 172):=by kernel_rfl
theorem uStr:Tryz.prog.underlying 9=some .string:=by kernel_rfl
theorem VU:Tryz.prog.underlying 172=some (.int .u64):=by kernel_rfl
theorem WS:Tryz.prog.cellsOf 9=1:=by kernel_rfl
theorem WR:Tryz.prog.cellsOf 172=1:=by kernel_rfl
theorem XL:Tryz.prog.cellsOf 327=10:=by kernel_rfl
theorem XK:Tryz.prog.cellsOf 353=20:=by kernel_rfl
theorem Nw {S:fZ} {w:World} {b:Nat} {α:Type} (fv:α→Value) (fa:α→AV) (hv: ∀a,bZ S w (fa a) (fv a)): ∀(ws:List α) (off:Nat),(∀(i:Nat) s,ws[i]?=some s→w.cell? ⟨b,off+i,none⟩=some (fv s))→eQ S w b off (ws.map fa)
 |[],_,_=>by simp only[dD,eQ]
 |s::ws,off,h=>by
  simp only[cP,eQ];refine⟨⟨_,by simpa using h 0 s rfl,hv s⟩,Nw fv fa hv ws (off+1) fun i s' hs=>?_⟩;rw[show off+1+i=off+(i+1)by omega];exact h (i+1) s' (by simpa using hs)
def TX:List Int:=[1,10,100,1000,10000,100000,1000000,10000000,100000000,1000000000,10000000000,100000000000,1000000000000,10000000000000,100000000000000,1000000000000000,10000000000000000,100000000000000000,1000000000000000000,10000000000000000000]
theorem Zp {W:World} (hL:laidMet Tryz.prog [("math/bits.deBruijn32tab",Rows.laid_math_bits_deBruijn32tab),("math/bits.deBruijn64tab",Rows.laid_math_bits_deBruijn64tab),("internal/strconv.uint64pow10",Rows.laid_internal_strconv_uint64pow10),("seedcorn/token.words",Rows.laid_seedcorn_token_words)] W):St dN ⟨W,IQ pX,old W,[],fun _=>Go.undef⟩ (old W) pX W:=by
 obtain⟨ps,hv,_⟩:=hL;have v1:W.var? Tryz.prog "seedcorn/token.words" =some (jP.map fun s=>Value.string ⟨s.toArray⟩).toArray:=yT C2 MA XF uStr WS XL hv (by simp only[bK];right;right;right;left;rfl)
 have v3:W.var? Tryz.prog "internal/strconv.uint64pow10" =some (TX.map fun z=>Value.int .u64 z).toArray:=Ce QQ UU XE VU WR XK hv (by simp only[bK];right;right;left;rfl)
 have lt: ∀{n:String} {g:Nat} {cs:Array Value},Tryz.prog.globalNamed n=some g→W.var? Tryz.prog n=some cs→g<W.heap.size:=fun {n g cs} hg h=>by
  simp only[World.var?,hg,cA]at h;split at h
  ·rename_i e;exact(eJ.1 e).1
  cases h
 refine⟨fun k hk=>hk,fun _ h=>h,fun k hk=> .inl hk,fun b o h=>(by cases h),nN.refl _ _,fun g row h=>?_⟩
 have key: ∀{α:Type} (fv:α→Value) (fa:α→AV),(∀a,bZ (old W) W (fa a) (fv a))→ ∀{n:String} {g:Nat} {ws:List α},Tryz.prog.globalNamed n=some g→W.var? Tryz.prog n=some (ws.map fv).toArray→eQ (old W) W g 0 (ws.map fa):=fun {α} fv fa hva {n g ws} hg h=>
  Nw fv fa hva ws 0 fun i s hs=>by
   rw[World.var?_cell hg h];simp [hs]
 have ks: ∀{n:String} {g:Nat} {ws:List (List UInt8)},Tryz.prog.globalNamed n=some g→W.var? Tryz.prog n=some (ws.map fun s=>Value.string ⟨s.toArray⟩).toArray→eQ (old W) W g 0 (ws.map .str):=fun {n g ws} hg h=>key (fun s:List UInt8=>Value.string ⟨s.toArray⟩) AV.str (fun a=>by simp only[bZ]) hg h;simp only[QX,HO]at h;split at h
 ·cases h;exact⟨lt C2 v1,ks C2 v1⟩
 ·cases h;exact⟨lt QQ v3,key (fun z:Int=>Value.int .u64 z) (AV.int .u64) (fun a=>by simp only[bZ]) (ws:=TX) QQ v3⟩
 cases h
def yW (d:DataW Unit):Obj→Obj
 | .cells _ t frozen=> .cells (W8 d) t frozen
 |o=>o
noncomputable def GX (h:Array Obj):Array Obj:=
 (((h.modify 2 (yW Rows.laid_math_bits_deBruijn32tab)).modify 3 (yW Rows.laid_math_bits_deBruijn64tab)).modify 1 (yW Rows.laid_internal_strconv_uint64pow10)).modify 0 (yW Rows.laid_seedcorn_token_words)
end
end Go.Proofs.YtaecpjgmcffliaaGreatDoor
