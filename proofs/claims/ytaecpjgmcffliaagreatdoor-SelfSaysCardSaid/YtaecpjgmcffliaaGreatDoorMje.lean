/- Mje -/
import Derived.Test.YtaecpjgmcffliaaGreatDoorMjc
import Derived.Test.YtaecpjgmcffliaaGreatDoorQk
import Derived.Test.YtaecpjgmcffliaaGreatDoorJc
import Derived.Test.YtaecpjgmcffliaaGreatDoorXd
set_option linter.unusedSimpArgs false
set_option linter.unusedVariables false
set_option maxRecDepth 10000
set_option maxHeartbeats 8000000
namespace Go.Al
section
variable {p : Pg} {cx : Cx} {r x : Nat} {vv vo vo' wv : AV} {abs : List Nat} {st : RS} {en : Int} {ow : List Int} {H H' : Hp}
theorem iH.set {b n:Nat} (h:iH vv abs vo (.osl 1 b n) ow H) (i:Nat) (v:Int):iH vv abs vo (.osl 1 b n) (ow.set i v) (upd H b (some (.rows 1 ((ow.map gL).set i [.int .u32 v])))):=by
 refine⟨?_,h.nv,h.na,h.nf⟩;rcases h.h with⟨e,_⟩|⟨a,e,c⟩
 ·cases e
 simp only[AV.osl.injEq,true_and]at e;obtain⟨rfl,rfl⟩:=e;exact .inr ⟨b,by simp,by rw[bE,qY]⟩
theorem kR.words {s b n:Nat} (h:kR r vv abs vo vo' x (.osl s b n) H H') (o:Option iG):kR r vv abs vo vo' x (.osl s b n) H (upd H' b o):=fun c u t g i j k l a=>by
 obtain⟨d,f⟩:=h c u t g i j k l a;exact⟨by rw[cI _ _ (fun e=>a _ _ (by rw[e]))];exact d,f⟩
theorem kR.frame (h:kR r vv abs vo vo' x wv H H') (o:Option iG):kR r vv abs vo vo' x wv H (upd H' x o):=fun b l k e f g i a j=>by
 obtain⟨c,d⟩:=h b l k e f g i a j;exact⟨by rw[cI _ _ a];exact c,d⟩
theorem iH.offv {s b n:Nat} (h:iH (.osl s b n) abs vo wv ow H):Al.off wv b:=fun c a e=>h.nv _ _ _ e _ _ rfl
theorem iH.offa (h:iH vv abs vo wv ow H) {b:Nat} (a:b∈abs):Al.off wv b:=fun _ _ e=>h.na _ _ _ e a
end
def Ig (cx:Cx) (d:Nat) (rs:dC→Bool×Int) (c:Ex) (t:List Sm) (ow:List Int) (st:RS):Option (Rz (Option Int×List Int)):=
 bindR (kT cx d rs ow c st) fun x st=>if x=0 then some (.val (none,ow) st)else bindR (nW cx d rs ow t st) fun r st=>match r.1 with
  |some v=>some (.val (some v,r.2) st)
  |none=>zL cx d rs r.2 c t st
theorem Yy (cx:Cx) (d:Nat) (b:dC→Bool×Int) (c:Ex) (t:List Sm) (a:List Int) (st:RS):zL cx (d+1) b a c t st=bindR (some (nE cx st)) fun _ st=>Ig cx d b c t a st:=by
 simp only[zL,Ig]<;>rfl
theorem fS.seal {p:Pg} {cx:Cx} {r:Nat} {vv vo:AV} {abs:List Nat} {st:RS} {i:Int} {H:Hp} {E:kC} {N:Nat} {Q:fN} {c:Code} {fr:Fr} (f:fS p cx r vv abs st vo i H)
  (h: ∀g d,(∀j,tK (fr j)=true→g j=fr j)→d r=some (.rows 11 [[.isl 1 (p.vars.map bQ), .isl 2 (p.arrs.map Ar.row), .isl 5 (p.funs.map Fu.row), .str cx.inp, .int .i64 cx.fuel,vv, .isl 1 (fU abs st.arrs), .isl 1 (st.out.map rE), .int .i64 st.read, .int .i64 st.ticks, .int .i64 i]])→
   (∀b s l,b≠r→off vo b→(∀r∈l, ∀x∈r,tK x=true)→H b=some (.rows s l)→d b=some (.rows s l))→mD E N c Q g d):mD E N c Q fr H:=by
 have y:H r=some (.rows 11 [[AV.isl 1 (p.vars.map bQ), .isl 2 (p.arrs.map Ar.row), .isl 5 (p.funs.map Fu.row), .str cx.inp, .int .i64 cx.fuel,vv, .isl 1 (fU abs st.arrs)]++vo::[.int .i64 st.read, .int .i64 st.ticks, .int .i64 i]]):=f.r;refine iF f.o y (fun x a=>?_) (fun x a=>?_) (f.o.offsz f.r (by decide)) fun g d z A B=>h g d (fun j C=>z j (bS C)) A fun b s l k t u v=>B b s l k t (fun r D x a=>bS (u r D x a)) v
 ·simp only[bP,bO,dF]at a
  rcases a with rfl|rfl|rfl|rfl|rfl|rfl|rfl
  ·exact bS rfl
  ·exact bS rfl
  ·exact bS rfl
  ·exact bS rfl
  ·exact bS rfl
  ·exact fun s b n e=>f.ov s b n e
  exact bS rfl
 simp only[bP,bO,dF]at a;rcases a with rfl|rfl|rfl<;>exact bS rfl
structure Gw (fuel:Nat) (s s':RS):Prop where
 out:s.out<+:s'.out
 t:s.ticks≤s'.ticks
 f:s.ticks≤fuel→s'.ticks≤fuel
theorem Gw.refl (a:Nat) (s:RS):Gw a s s:=⟨qV _,bI _,fun h=>h⟩
theorem Gw.trans {a:Nat} {s s1 s2:RS} (h:Gw a s s1) (b:Gw a s1 s2):Gw a s s2:=⟨h.out.trans b.out,pS h.t b.t,fun x=>b.f (h.f x)⟩
def fW {α:Type} (fuel:Nat) (s:RS) (x:Option (Rz α)):Prop:= ∀o,x=some o→Gw fuel s o.st
theorem fW.none {b:Type} (a:Nat) (s:RS):fW a s (none:Option (Rz b)):=fun _ h=>by cases h
theorem fW.val {c:Type} {b:Nat} {s s':RS} (h:Gw b s s') (a:c):fW b s (some (.val a s')):=fun _ e=>by cases e;exact h
theorem fW.fin {c:Type} {b:Nat} {s s':RS} (h:Gw b s s') (a:Int):fW b s (some (.fin a s':Rz c)):=fun _ e=>by cases e;exact h
theorem fW.bind {i k:Type} {c:Nat} {s:RS} {x:Option (Rz i)} {f:i→RS→Option (Rz k)} (h:fW c s x) (j: ∀a b,fW c b (f a b)):fW c s (bindR x f):=fun o d=>by
 cases x with
 |none=>cases d
 |some r=>
  have g:=h r rfl
  cases r with
  |val a b=>exact g.trans (j a b o d)
  |fin e b=>cases d;exact g
theorem fW.ite {d:Type} {a:Nat} {s:RS} {c:Prop} [Decidable c] {x y:Option (Rz d)} (h:fW a s x) (b:fW a s y):fW a s (if c then x else y):=by
 split
 ·exact h
 exact b
theorem Gv (cx:Cx) (st:RS):fW cx.fuel st (some (nE cx st)):=by
 unfold nE;split
 ·exact fW.fin (Gw.refl _ _) _
 exact fW.val (by exact⟨qV _,Nat.le_succ _,fun _=>by show st.ticks+1≤_;omega⟩) _
theorem UA (cx:Cx) (a:Nat) (st:RS):fW a st (some (zI cx st)):=by
 unfold zI;split
 ·exact fW.val (by exact⟨qV _,bI _,fun h=>h⟩) _
 exact fW.val (Gw.refl _ _) _
theorem IS (a:Nat) (v:Int) (st:RS):fW a st (some (Ik v st)):=by
 unfold Ik;split
 ·exact fW.fin (Gw.refl _ _) _
 exact fW.val (by exact⟨List.prefix_append _ _,bI _,fun h=>h⟩) _
theorem Zv (a:Nat) (i x:Int) (st:RS):fW a st (X1 i x st):=by
 unfold X1;split
 ·exact fW.none _ _
 split
 ·exact fW.val (Gw.refl _ _) _
 exact fW.fin (Gw.refl _ _) _
theorem IE (a:Nat) (p:Bool×Int) (v:Int) (b:List Int) (st:RS):fW a st ((Sj p v b st).map fun r=>Rz.val ((none:Option Int),r.1) r.2):=by
 unfold Sj;split
 ·split
  ·split
   ·exact fW.val (Gw.refl _ _) _
   exact fW.none _ _
  split
  ·exact fW.val (by exact⟨qV _,bI _,fun h=>h⟩) _
  exact fW.none _ _
 exact fW.none _ _
structure YZ (cx:Cx) (n:Nat):Prop where
 E: ∀rs ow e st,fW cx.fuel st (kT cx n rs ow e st)
 A: ∀rs ow l st,fW cx.fuel st (Fa cx n rs ow l st)
 C: ∀rs ow i l st,fW cx.fuel st (Ug cx n rs ow i l st)
 S: ∀rs ow e st,fW cx.fuel st (pN cx n rs ow e st)
 L: ∀rs ow l st,fW cx.fuel st (nW cx n rs ow l st)
 W: ∀rs ow c t st,fW cx.fuel st (zL cx n rs ow c t st)
theorem grow (cx:Cx) (n:Nat):YZ cx n:=by
 induction n with
 |zero=>
  constructor
  all_goals
   intros
   intro o h;simp [kT,Fa,Ug,pN,nW,zL]at h
 |succ n ih=>
  obtain⟨d,z,A,C,y,B⟩:=ih;constructor
  ·rintro g p ⟨k,o,m,s,l⟩ st
   simp only[kT];refine fW.ite (fW.val (Gw.refl _ _) _) (fW.ite ?_ (fW.ite ?_ (fW.ite (A _ _ _ _ _) (fW.ite (UA _ _ _) ?_))))
   ·cases Pq (g s) p st with
    |none=>exact fW.none _ _
    |some v=>exact fW.val (Gw.refl _ _) _
   ·cases l[0]? with
    |none=>exact fW.none _ _
    |some a=>
     refine fW.bind (d _ _ _ _) fun x st=>fW.ite (fW.bind (Zv _ _ _ _) fun j st=>?_) (fW.none _ _)
     cases(st.arrs[(g s).2.toNat]?).bind fun l=>l[j]? with
     |none=>exact fW.none _ _
     |some v=>exact fW.val (Gw.refl _ _) _
   cases l[0]? with
   |none=>exact fW.none _ _
   |some a=>
    refine fW.ite (fW.bind (d _ _ _ _) fun _ _=>fW.val (Gw.refl _ _) _) ?_
    cases l[1]? with
    |none=>exact fW.none _ _
    |some b=>
     refine fW.ite (fW.bind (d _ _ _ _) fun _ _=>fW.bind (d _ _ _ _) fun _ _=>fW.ite (fW.val (Gw.refl _ _) _) (fW.fin (Gw.refl _ _) _)) ?_;exact fW.bind (d _ _ _ _) fun _ _=>fW.ite (fW.val (Gw.refl _ _) _) (d _ _ _ _)
  ·intro g p l st
   cases l with
   |nil=>simp only[Fa];exact fW.val (Gw.refl _ _) _
   |cons e l=>
    simp only[Fa];exact fW.bind (d _ _ _ _) fun _ _=>fW.bind (z _ _ _ _) fun _ _=>fW.val (Gw.refl _ _) _
  ·intro g p i l st
   simp only[Ug];refine fW.ite (fW.none _ _) ?_
   cases cx.funs[i.toNat]? with
   |none=>exact fW.none _ _
   |some f=>exact fW.ite (fW.none _ _) (fW.bind (z _ _ _ _) fun _ _=>fW.bind (Gv _ _) fun _ _=>fW.bind (y _ _ _ _) fun _ _=>fW.val (Gw.refl _ _) _)
  ·rintro g p ⟨k,s,l,t,u⟩ st
   simp only[pN];refine fW.ite ?_ (fW.ite ?_ (fW.ite ?_ (fW.ite ?_ (fW.ite ?_ (fW.ite ?_ (fW.ite ?_ (fW.val (Gw.refl _ _) _)))))))
   ·cases l[0]? with
    |none=>exact fW.none _ _
    |some a=>exact fW.bind (d _ _ _ _) fun _ _=>IE _ _ _ _ _
   ·cases l[0]? with
    |none=>exact fW.none _ _
    |some a=>
     cases l[1]? with
     |none=>exact fW.none _ _
     |some b=>exact fW.bind (d _ _ _ _) fun _ _=>fW.bind (d _ _ _ _) fun _ st=>fW.ite (fW.bind (Zv _ _ _ _) fun _ _=>fW.val (by exact⟨qV _,bI _,fun h=>h⟩) _) (fW.none _ _)
   ·cases l[0]? with
    |none=>exact fW.none _ _
    |some a=>exact fW.bind (d _ _ _ _) fun _ _=>fW.bind (IS _ _ _) fun _ _=>fW.val (Gw.refl _ _) _
   ·cases l[0]? with
    |none=>exact fW.none _ _
    |some a=>exact fW.bind (d _ _ _ _) fun _ _=>fW.ite (y _ _ _ _) (y _ _ _ _)
   ·cases l[0]? with
    |none=>exact fW.none _ _
    |some a=>exact B _ _ _ _ _
   ·exact fW.bind (A _ _ _ _ _) fun _ _=>fW.val (Gw.refl _ _) _
   cases l[0]? with
   |none=>exact fW.val (Gw.refl _ _) _
   |some a=>exact fW.bind (d _ _ _ _) fun _ _=>fW.val (Gw.refl _ _) _
  ·intro g p l st
   cases l with
   |nil=>simp only[nW];exact fW.val (Gw.refl _ _) _
   |cons s l=>
    simp only[nW];refine fW.bind (C _ _ _ _) fun r st=>?_
    cases r.1 with
    |some v=>exact fW.val (Gw.refl _ _) _
    |none=>exact y _ _ _ _
  intro g p c t st;simp only[zL];refine fW.bind (Gv _ _) fun _ st=>fW.bind (d _ _ _ _) fun x st=>fW.ite (fW.val (Gw.refl _ _) _) (fW.bind (y _ _ _ _) fun r st=>?_)
  cases r.1 with
  |some v=>exact fW.val (Gw.refl _ _) _
  |none=>exact B _ _ _ _ _
def iR {α:Type} (F:Nat) (x y:Option (Rz α)):Prop:= ∀o,x=some o→(match o with
 | .fin e s=>(e≠5∧y=some o)∨(e=5∧F≤s.ticks∧ ∀o',y=some o'→s.out<+:o'.st.out∧s.ticks≤o'.st.ticks)
 | .val _ _=>y=some o)
section
variable {F F' : Nat}
theorem iR.none {a:Type} (y:Option (Rz a)):iR F none y:=fun _ h=>by cases h
theorem iR.val {b:Type} (a:b) (s:RS):iR F (some (.val a s)) (some (.val a s)):=fun _ h=>by cases h;rfl
theorem iR.fin {b:Type} {e:Int} (a:e≠5) (s:RS):iR F (some (.fin e s:Rz b)) (some (.fin e s)):=fun _ h=>by cases h;exact .inl ⟨a,rfl⟩
theorem iR.same {d:Type} {x:Option (Rz d)} (h: ∀s,x≠some (.fin 5 s)):iR F x x:=fun o b=>by
 cases o with
 |val a s=>exact b
 |fin e s=>
  refine .inl ⟨fun c=>?_,b⟩;subst c;exact h s b
theorem iR.bind {l A:Type} {x y:Option (Rz l)} {f g:l→RS→Option (Rz A)} (h:iR F x y) (p: ∀a s,iR F (f a s) (g a s)) (u: ∀a s,fW F' s (g a s)):iR F (bindR x f) (bindR y g):=fun o i=>by
 cases x with
 |none=>cases i
 |some r=>
  have b:=h r rfl
  cases r with
  |val a s=>
   simp only at b;subst b;exact p a s o i
  |fin e s=>
   cases i;simp only at b⊢;rcases b with⟨d,rfl⟩|⟨d,v,n⟩
   ·exact .inl ⟨d,rfl⟩
   refine .inr ⟨d,v,fun z j=>?_⟩
   cases y with
   |none=>cases j
   |some r'=>
    have c:=n r' rfl
    cases r' with
    |val a s'=>
     have k:=u a s' z j;simp only[Rz.st]at c;exact⟨c.1.trans k.out,pS c.2 k.t⟩
    |fin e s'=>cases j;exact c
theorem iR.ite {e:Type} {c:Prop} [Decidable c] {x y a b:Option (Rz e)} (h:iR F x a) (d:iR F y b):iR F (if c then x else y) (if c then a else b):=by
 split
 ·exact h
 exact d
end
structure YY (cx cx':Cx) (n:Nat):Prop where
 E: ∀rs ow e st,iR cx.fuel (kT cx n rs ow e st) (kT cx' n rs ow e st)
 A: ∀rs ow l st,iR cx.fuel (Fa cx n rs ow l st) (Fa cx' n rs ow l st)
 C: ∀rs ow i l st,iR cx.fuel (Ug cx n rs ow i l st) (Ug cx' n rs ow i l st)
 S: ∀rs ow e st,iR cx.fuel (pN cx n rs ow e st) (pN cx' n rs ow e st)
 L: ∀rs ow l st,iR cx.fuel (nW cx n rs ow l st) (nW cx' n rs ow l st)
 W: ∀rs ow c t st,iR cx.fuel (zL cx n rs ow c t st) (zL cx' n rs ow c t st)
theorem R1 {cx b:Cx} (h:cx.fuel≤b.fuel) (st:RS):iR cx.fuel (some (nE cx st)) (some (nE b st)):=by
 intro o a;unfold nE at a;split at a
 ·cases a
  refine .inr ⟨rfl,by assumption,fun d c=>?_⟩;have:=Gv b st d c;exact⟨this.out,this.t⟩
 cases a;simp only[nE];rw[aL (by omega)]
theorem AE {cx d:Cx} (I:cx.fuel≤d.fuel) (M:d.funs=cx.funs) (O:d.inp=cx.inp) (n:Nat):YY cx d n:=by
 induction n with
 |zero=>
  constructor
  all_goals
   intros
   intro o h;simp [kT,Fa,Ug,pN,nW,zL]at h
 |succ n ih=>
  obtain⟨g,D,E,L,A,G⟩:=ih;obtain⟨B,J,Q,R,y,K⟩:=grow d n;have N: ∀st,zI d st=zI cx st:=fun st=>by simp only[zI,O]
  have H: ∀i x st,iR cx.fuel (X1 i x st) (X1 i x st):=fun i x st=>iR.same fun s h=>by
   unfold X1 at h;split at h
   ·cases h
   split at h<;>cases h
  have P: ∀v st,iR cx.fuel (some (Ik v st)) (some (Ik v st)):=fun v st=>iR.same fun s h=>by
   unfold Ik at h;split at h<;>cases h
  constructor
  ·rintro p z ⟨k,o,m,s,l⟩ st
   simp only[kT,N];refine iR.ite (iR.val _ _) (iR.ite ?_ (iR.ite ?_ (iR.ite (E _ _ _ _ _) (iR.ite ?_ ?_))))
   ·cases Pq (p s) z st with
    |none=>exact iR.none _
    |some v=>exact iR.val _ _
   ·cases l[0]? with
    |none=>exact iR.none _
    |some a=>
     refine iR.bind (F':=d.fuel) (g _ _ _ _) (fun x st=>iR.ite (iR.bind (F':=d.fuel) (H _ _ _) (fun j st=>?_) fun j st=>?_) (iR.none _)) fun x st=>fW.ite (fW.bind (Zv _ _ _ _) fun j st=>?_) (fW.none _ _)
     all_goals cases(st.arrs[(p s).2.toNat]?).bind fun l=>l[j]?
     all_goals first|exact iR.none _|exact iR.val _ _|exact fW.none _ _|exact fW.val (Gw.refl _ _) _
   ·exact iR.same fun s h=>by
     unfold zI at h;split at h<;>cases h
   cases l[0]? with
   |none=>exact iR.none _
   |some a=>
    refine iR.ite (iR.bind (F':=d.fuel) (g _ _ _ _) (fun _ _=>iR.val _ _) fun _ _=>fW.val (Gw.refl _ _) _) ?_
    cases l[1]? with
    |none=>exact iR.none _
    |some b=>
     refine iR.ite (iR.bind (F':=d.fuel) (g _ _ _ _) (fun _ _=>iR.bind (F':=d.fuel) (g _ _ _ _) (fun _ _=>iR.ite (iR.val _ _) (iR.fin (by decide) _)) fun _ _=>fW.ite (fW.val (Gw.refl _ _) _) (fW.fin (Gw.refl _ _) _)) fun _ _=>fW.bind (B _ _ _ _) fun _ _=>fW.ite (fW.val (Gw.refl _ _) _) (fW.fin (Gw.refl _ _) _)) ?_;exact iR.bind (F':=d.fuel) (g _ _ _ _) (fun _ _=>iR.ite (iR.val _ _) (g _ _ _ _)) fun _ _=>fW.ite (fW.val (Gw.refl _ _) _) (B _ _ _ _)
  ·intro p z l st
   cases l with
   |nil=>simp only[Fa];exact iR.val _ _
   |cons e l=>
    simp only[Fa];exact iR.bind (F':=d.fuel) (g _ _ _ _) (fun _ _=>iR.bind (F':=d.fuel) (D _ _ _ _) (fun _ _=>iR.val _ _) fun _ _=>fW.val (Gw.refl _ _) _) fun _ _=>fW.bind (J _ _ _ _) fun _ _=>fW.val (Gw.refl _ _) _
  ·intro p z i l st
   simp only[Ug,M];refine iR.ite (iR.none _) ?_
   cases cx.funs[i.toNat]? with
   |none=>exact iR.none _
   |some f=>
    exact iR.ite (iR.none _) (iR.bind (F':=d.fuel) (D _ _ _ _) (fun _ _=>iR.bind (F':=d.fuel) (R1 I _) (fun _ _=>iR.bind (F':=d.fuel) (A _ _ _ _) (fun _ _=>iR.val _ _) fun _ _=>fW.val (Gw.refl _ _) _) fun _ _=>fW.bind (y _ _ _ _) fun _ _=>fW.val (Gw.refl _ _) _) fun _ _=>fW.bind (Gv _ _) fun _ _=>fW.bind (y _ _ _ _) fun _ _=>fW.val (Gw.refl _ _) _)
  ·rintro p z ⟨k,s,l,t,u⟩ st
   simp only[pN];refine iR.ite ?_ (iR.ite ?_ (iR.ite ?_ (iR.ite ?_ (iR.ite ?_ (iR.ite ?_ (iR.ite ?_ (iR.val _ _)))))))
   ·cases l[0]? with
    |none=>exact iR.none _
    |some a=>
     refine iR.bind (F':=d.fuel) (g _ _ _ _) (fun v st=>?_) fun _ _=>IE _ _ _ _ _
     cases Sj (p s) v z st with
     |none=>exact iR.none _
     |some r=>exact iR.val _ _
   ·cases l[0]? with
    |none=>exact iR.none _
    |some a=>
     cases l[1]? with
     |none=>exact iR.none _
     |some b=>exact iR.bind (F':=d.fuel) (g _ _ _ _) (fun _ _=>iR.bind (F':=d.fuel) (g _ _ _ _) (fun _ st=>iR.ite (iR.bind (F':=d.fuel) (H _ _ _) (fun _ _=>iR.val _ _) fun _ _=>fW.val (by exact⟨qV _,bI _,fun h=>h⟩) _) (iR.none _)) fun _ _=>fW.ite (fW.bind (Zv _ _ _ _) fun _ _=>fW.val (by exact⟨qV _,bI _,fun h=>h⟩) _) (fW.none _ _)) fun _ _=>fW.bind (B _ _ _ _) fun _ _=>fW.ite (fW.bind (Zv _ _ _ _) fun _ _=>fW.val (by exact⟨qV _,bI _,fun h=>h⟩) _) (fW.none _ _)
   ·cases l[0]? with
    |none=>exact iR.none _
    |some a=>exact iR.bind (F':=d.fuel) (g _ _ _ _) (fun _ _=>iR.bind (F':=d.fuel) (P _ _) (fun _ _=>iR.val _ _) fun _ _=>fW.val (Gw.refl _ _) _) fun _ _=>fW.bind (IS _ _ _) fun _ _=>fW.val (Gw.refl _ _) _
   ·cases l[0]? with
    |none=>exact iR.none _
    |some a=>exact iR.bind (F':=d.fuel) (g _ _ _ _) (fun _ _=>iR.ite (A _ _ _ _) (A _ _ _ _)) fun _ _=>fW.ite (y _ _ _ _) (y _ _ _ _)
   ·cases l[0]? with
    |none=>exact iR.none _
    |some a=>exact G _ _ _ _ _
   ·exact iR.bind (F':=d.fuel) (E _ _ _ _ _) (fun _ _=>iR.val _ _) fun _ _=>fW.val (Gw.refl _ _) _
   cases l[0]? with
   |none=>exact iR.val _ _
   |some a=>exact iR.bind (F':=d.fuel) (g _ _ _ _) (fun _ _=>iR.val _ _) fun _ _=>fW.val (Gw.refl _ _) _
  ·intro p z l st
   cases l with
   |nil=>simp only[nW];exact iR.val _ _
   |cons s l=>
    simp only[nW];refine iR.bind (F':=d.fuel) (L _ _ _ _) (fun r st=>?_) fun r st=>?_
    ·cases r.1 with
     |some v=>exact iR.val _ _
     |none=>exact A _ _ _ _
    cases r.1 with
    |some v=>exact fW.val (Gw.refl _ _) _
    |none=>exact y _ _ _ _
  intro p z c t st
  have C: ∀(r:Option Int×List Int) st,fW d.fuel st (match r.1 with |some v=>some (.val (some v,r.2) st)|none=>zL d n p r.2 c t st):=fun r st=>by
   cases r.1 with
   |some v=>exact fW.val (Gw.refl _ _) _
   |none=>exact K _ _ _ _ _
  simp only[zL];refine iR.bind (F':=d.fuel) (R1 I _) (fun _ st=>iR.bind (F':=d.fuel) (g _ _ _ _) (fun x st=>iR.ite (iR.val _ _) (iR.bind (F':=d.fuel) (A _ _ _ _) (fun r st=>?_) fun r st=>C r st)) fun _ _=>fW.ite (fW.val (Gw.refl _ _) _) (fW.bind (y _ _ _ _) C)) fun _ _=>fW.bind (B _ _ _ _) fun _ _=>fW.ite (fW.val (Gw.refl _ _) _) (fW.bind (y _ _ _ _) C)
  cases r.1 with
  |some v=>exact iR.val _ _
  |none=>exact G _ _ _ _ _
end Go.Al
namespace Go.Proofs.YtaecpjgmcffliaaGreatDoor
open Go.Al Go.Proofs.Tryz
section
variable {p : Pg} {cx : Cx} {r : Nat} {vv : AV} {abs : List Nat} {n : Nat}
theorem Ep {en:Int} (ih:en=0→Bn p cx r vv abs n) (z:QB cx) (i:Nat) (rs:dC→Bool×Int) (ow:List Int) (e:Ex) (st:RS) (vo:AV) (H:Hp) (x:Nat) (wv:AV) (bk:Bool) (vl:Int) (o:Rz Int) (he:e.ok) (hU: ∀u∈nX e,UJ p i rs u) (d: ∀u∈fY e.kids,UJ p i rs u) (R:fS p cx r vv abs st vo en H) (hW:iH vv abs vo wv ow H) (hu: ∀y∈ow,dX y) (a3:H x=some (.rows 4 [[.int .i64 i,wv, .bool bk, .int .u32 vl]])) (h:vG en st (kT cx (n+1) rs ow e st) o):
  oN dV 153 [.ptr 11 r 0 0, .ptr 4 x 0 0, .agg e.row] H (Xu p cx r vv abs vo H o):=by
 obtain⟨k,op,m,s,l⟩:=e;have t:=R.r;have f8:=he.num;have d5:=he.kids;simp only[Ex.num,Ex.kids]at f8 d5 d;have g5:(Ex.mk k op m s l).row=[.int .i64 k, .int .i64 op, .int .u32 m, .str s, .isl 5 (l.map Ex.row)]:=Ex.row_eq _;rw[g5];clear g5;have i4:x≠r:=fun e=>by rw[e,t]at a3;cases a3
 have j1:=i4.symm;rcases h with⟨rfl,h⟩|⟨f4,rfl⟩
 rotate_left
 ·have z0: ¬en=0:=f4
  refine bX 232 [.tmp 6] func153 ?_;refine aA fun K d=>?_;simp only[RR,seval];refine aM fun L g=>?_;have N:=cY g t;have B:=N.symm;simp only[RR,seval];refine d _ _ (aI (aA fun K d=>?_));simp only[t,B,z0,RR,seval];refine d _ _ (cR (aA fun K d=>?_));simp only[RR,seval];apply d;refine aN ?_;simp only[aW,aJ,bN,RR,seval];exact aY.run ⟨0,vo,rfl,by simp [dX],(fun _ _ e=>by cases e),(fun _ _ e=>by cases e;exact f4),R.new g _,(eC.refl _ _ _ _ _).updN g _⟩
 have ih:=ih rfl;simp only[kT]at h;have h0: ∀{j:Nat} {a:Ex},l[j]?=some a→a.ok:=fun hj=>d5.all _ (aZ hj);have hV:=fun(j:Nat) (a:Ex) (hj:l[j]?=some a) st vo en H o h3 h4 h5 h6=>ih.V i rs ow a st vo en H x wv bk vl o (h0 hj) (fun u hu=>d u ((gC (aZ hj)).1 u hu)) (fun u hu=>d u ((gC (aZ hj)).2 u hu)) h3 h4 hu h5 h6;have f9:p.av= .agg [.isl 1 (p.vars.map bQ), .isl 2 (p.arrs.map Ar.row), .isl 5 (p.funs.map Fu.row)]:=rfl;by_cases k1:k=1
 ·subst k1
  simp only[cT]at h;cases h;refine bX 232 [.tmp 6] func153 ?_;refine aA fun K d=>?_;simp only[RR,seval];refine aM fun L g=>?_;have N:=cY g t;have B:=N.symm;simp only[RR,seval];refine d _ _ (aI (aA fun K d=>?_));simp only[t,B,RR,seval];refine d _ _ (bL ?_);refine aK ?_;simp only[RR];refine aI (aA fun K d=>?_);simp only[RR,seval];refine d _ _ (aP (aA fun K d=>?_));simp only[RR,seval];refine d _ _ (cR (aA fun K d=>?_));simp only[RR,seval];apply d;refine aN ?_;simp only[aW,aJ,bN,RR,seval];exact aY.run ⟨m,vo,rfl,f8,(fun _ _ e=>by cases e;rfl),(fun _ _ e=>by cases e),R.new g _,(eC.refl _ _ _ _ _).updN g _⟩
 by_cases k2:k=2
 ·subst k2
  simp only[show ¬(2:Int)=1 by decide,dK,cT,Pq]at h;have a9:=hU ⟨s,1,0⟩ (by simp [nX,Ex.kind,Ex.name]);have hF:=a9.f;rw[f9]at hF;simp only at hF;have hk:=a9.k1;generalize eT p i s=fi at hF hk;obtain⟨kk,ii⟩:=fi;simp only at hF hk;by_cases z0:0≤(rs s).2
  rotate_left
  ·rw[aL z0]at h;cases h
  rw[bH z0]at h;rcases hk with⟨rfl,c5⟩|⟨rfl,c5⟩
  ·rw[c5]at h z0
   simp only[cT,bR]at h z0;obtain⟨y,hg,rfl⟩:=h;obtain⟨bo,rfl,b9⟩:=hW.osl hg;have hl:=(bF.1 hg).1;have zl:ii<(ow.length:Int):=by omega
   have d2:=sY hg;have d7:=hu y (aZ hg);have z:=a3;have d8:bo≠r:=R.nr b9;have d9:bo≠x:=fun e=>by rw[e,a3]at b9;cases b9
   have i0:r≠bo:=fun e=>d8 e.symm;have i3:x≠bo:=fun e=>d9 e.symm;refine bX 232 [.tmp 6] func153 ?_;refine aA fun K d=>?_;simp only[RR,seval];refine aM fun L g=>?_;have N:=cY g t;have B:=N.symm;have Y:=cY g z;have W:=Y.symm;have h7:=cY g b9;have i1:=h7.symm;simp only[RR,seval];refine d _ _ (aI (aA fun K d=>?_));simp only[t,B,RR,seval];refine d _ _ (bL ?_);refine aK ?_;simp only[RR];refine aI (aA fun K d=>?_);simp only[RR,seval];refine d _ _ (aP (aA fun K d=>?_));simp only[RR,seval];refine d _ _ (bL (aA fun K d=>?_));simp only[RR,seval];refine d _ _ (cR (aC fun K d=>?_));refine bB (fun x=>x≠r∧x≠x∧x≠bo∧x≠L) [(0,3),(1,3),(2,3),(3,1),(4,3),(5,3),(6,3),(7,1),(8,3),(9,1),(10,1),(11,3),(12,3),(13,3),(14,3),(15,3)] [] eF (by kernel_rfl) rfl rfl ?_;simp only[dR,t,z,B,W,RR,seval];refine aO (hF) ?_;simp only[RR,seval];refine d _ _ (aI (aA fun K d=>?_));simp only[RR,seval];refine d _ _ (cR (aA fun K d=>?_));simp only[z,b9,W,i1,z0,zl,d2,RR,seval];apply d;refine aN ?_;simp only[aW,aJ,bN,RR,seval];exact aY.run ⟨y,vo,rfl,d7,(fun _ _ e=>by cases e;rfl),(fun _ _ e=>by cases e),R.new g _,(eC.refl _ _ _ _ _).updN g _⟩
  rw[c5]at h z0;simp only[cH,dK,bR]at h z0;obtain⟨y,hg,rfl⟩:=h;obtain⟨bv,rfl,c0⟩:=R.osl hg;have hl:=(bF.1 hg).1;have zl:ii<(st.vars.length:Int):=by omega
  have d2:=sY hg;have d7:=R.uv y (aZ hg);have z:=a3;have d8:bv≠r:=R.nr c0;have d9:bv≠x:=fun e=>by rw[e,a3]at c0;cases c0
  have i0:r≠bv:=fun e=>d8 e.symm;have i3:x≠bv:=fun e=>d9 e.symm;refine bX 232 [.tmp 6] func153 ?_;refine aA fun K d=>?_;simp only[RR,seval];refine aM fun L g=>?_;have N:=cY g t;have B:=N.symm;have Y:=cY g z;have W:=Y.symm;have h8:=cY g c0;have i2:=h8.symm;simp only[RR,seval];refine d _ _ (aI (aA fun K d=>?_));simp only[t,B,RR,seval];refine d _ _ (bL ?_);refine aK ?_;simp only[RR];refine aI (aA fun K d=>?_);simp only[RR,seval];refine d _ _ (aP (aA fun K d=>?_));simp only[RR,seval];refine d _ _ (bL (aA fun K d=>?_));simp only[RR,seval];refine d _ _ (cR (aC fun K d=>?_));refine bB (fun x=>x≠r∧x≠x∧x≠bv∧x≠L) [(0,3),(1,3),(2,3),(3,1),(4,3),(5,3),(6,3),(7,1),(8,3),(9,1),(10,1),(11,3),(12,3),(13,3),(14,3),(15,3)] [] eF (by kernel_rfl) rfl rfl ?_;simp only[dR,t,z,B,W,RR,seval];refine aO (hF) ?_;simp only[RR,seval];refine d _ _ (aI (aA fun K d=>?_));simp only[RR,seval];refine d _ _ (bL ?_);refine aK ?_;simp only[RR];refine aA fun K d=>?_;simp only[t,c0,B,i2,z0,zl,d2,RR,seval];apply d;refine aN ?_;simp only[aW,aJ,bN,RR,seval];exact aY.run ⟨y,vo,rfl,d7,(fun _ _ e=>by cases e;rfl),(fun _ _ e=>by cases e),R.new g _,(eC.refl _ _ _ _ _).updN g _⟩
 by_cases k3:k=3
 ·subst k3
  simp only[show ¬(3:Int)=1 by decide,show ¬(3:Int)=2 by decide,dK,cT]at h;have a9:=hU ⟨s,3,0⟩ (by simp [nX,Ex.kind,Ex.name]);have hF:=a9.f;rw[f9]at hF;simp only at hF;have hk:=a9.k3;generalize eT p i s=fi at hF hk;obtain⟨kk,ii⟩:=fi;simp only at hF hk;obtain⟨rfl,c5⟩:=hk;rw[c5]at h
  cases hl0:l[0]? with
  |none=>rw[hl0]at h;cases h
  |some a=>
   simp only[hl0]at h;have b1:=qG hl0
   obtain⟨F,h1⟩: ∃F,kT cx n rs ow a st=some F:=by
    cases h1:kT cx n rs ow a st with
    |none=>rw[h1]at h;cases h
    |some F=>exact⟨F,rfl⟩
   rw[h1]at h;have a5:=fun H' g1 g2 g3=>hV 0 a hl0 st vo 0 H' F g1 g2 g3 (.inl ⟨rfl,h1⟩);rw[a.row_eq]at a5;have z:=a3;obtain⟨HX,e0⟩: ∃X,X=H:=⟨_,rfl⟩;refine bX 232 [.tmp 6] func153 ?_;refine aA fun K d=>?_;simp only[RR,seval];refine aM fun L g=>?_;have N:=cY g t;have B:=N.symm;have Y:=cY g z;have W:=Y.symm;simp only[RR,seval];refine d _ _ (aI (aA fun K d=>?_));simp only[t,B,RR,seval];refine d _ _ (bL ?_);refine aK ?_;simp only[RR];refine aI (aA fun K d=>?_);simp only[RR,seval];refine d _ _ (aP (aA fun K d=>?_));simp only[RR,seval];refine d _ _ (bL (aA fun K d=>?_));simp only[RR,seval];refine d _ _ (bL (aA fun K d=>?_));simp only[RR,seval];refine d _ _ (cR (aC fun K d=>?_));refine bB (fun x=>x≠r∧x≠x∧x≠L) [(0,3),(1,3),(2,3),(3,1),(4,3),(5,3),(6,3),(7,1),(8,3),(9,1),(10,1),(11,3),(12,3),(13,3),(14,3),(15,3)] [] eF (by kernel_rfl) rfl rfl ?_;simp only[dR,t,z,B,W,RR,seval];refine aO (hF) ?_;simp only[RR,seval];refine d _ _ (bM fun F1 M1 G A=>?_);have J:=G 0;have Q:=G 1;have O:=G 5;have f6:=G 6;have c9:=G 10;have T:=A r;have U:=A x;have I:=A L;simp only[t,z,B,W,RR,seval]at J Q O f6 c9 T U I;have hM:=funext A;have P:=(R.new g _).same A;have Z:=(hW.new g _).same A;have a0:eC r vv abs vo vo H M1:=by rw[hM];exact(eC.refl _ _ _ _ _).updN g _
   have t:=T;have z:=U;refine aA fun K d=>?_;simp only[J,Q,O,I,b1,RR,seval];refine mO (a5 _ P Z z) (fun _=>trivial) fun w a1 H1 uw c6 b3 E M=>?_;have t:=E.r;have z:=P.keep z (by decide) (by decide) M;have d3:=a0.trans M;simp only[RR,seval];refine d _ _ (aI (aA fun K d=>?_));simp only[J,t,RR,seval];refine d _ _ (aU ?_ ?_)<;>intro e5
   ·obtain⟨S,D,rfl⟩:=sJ (o:=F) (by simpa using e5)
    obtain rfl:=Option.some.inj (show some (Rz.fin S D)=some o from h);refine aA fun K d=>?_;simp only[RR,seval];apply d;refine aN ?_;simp only[aW,aJ,bN,RR,seval];exact aY.run ⟨0,a1,rfl,by simp [dX],(fun _ _ e=>by cases e),b3,E,d3⟩
   obtain⟨x1,D,rfl⟩:=sI (o:=F) b3 (by simpa using e5);obtain rfl:=c6 _ _ rfl;simp only[bindR]at h;by_cases z0:0≤ii
   rotate_left
   ·rw[aL z0]at h;cases h
   rw[bH z0]at h;obtain⟨ia,rfl⟩:=gY z0;simp only[cC,X1]at h
   obtain⟨la,a4⟩: ∃la,D.arrs[ia]?=some la:=by
    cases a4:D.arrs[ia]? with
    |none=>rw[a4]at h;cases h
    |some la=>exact⟨la,rfl⟩
   rw[a4]at h;simp only at h;have hl:ia<abs.length:=by rw[E.al];exact(bF.1 a4).1
   have hb:=aF hl;generalize abs[ia]=ba at hb;have f7:=wZ abs D.arrs ia ba la hb a4;have e4:=E.a ia ba la hb a4;have i7:=(E.ua la (aZ a4)).1;obtain⟨m1,rfl⟩:=gY uw.1;have i9:=uw.2;have S:IntKind.wrap .u64 (m1:Int)=(m1:Int):=by simp [IntKind.wrap,IntKind.signed,IntKind.bits];omega
   have e2:IntKind.wrap .u64 (la.length:Int)=(la.length:Int):=by simp [IntKind.wrap,IntKind.signed,IntKind.bits];omega
   rw[cC]at h;have t:H1 r=_:=E.r;have d6:(Rz.val (m1:Int) D).st=D:=rfl;have d0:mY (Rz.val (m1:Int) D)=0:=rfl;rw[d6,d0]at t;have h9:ba≠r:=E.nr e4;have j0:r≠ba:=fun e=>h9 e.symm;refine aK ?_;simp only[RR];refine aI (aA fun K d=>?_);simp only[J,c9,t,f7,S,e2,RR,seval];refine d _ _ (aU ?_ ?_)<;>intro e6
   ·have hf: ¬m1<la.length:=by have:=aB e6;omega
    rw[aL hf]at h;cases h;refine aA fun K d=>?_;simp only[J,t,RR,seval];refine d _ _ (aA fun K d=>?_);simp only[RR,seval];apply d;refine aN ?_;simp only[aW,aJ,bN,RR,seval];exact aY.run ⟨0,a1,rfl,by simp [dX],(fun _ _ e=>by cases e),(fun _ _ e=>by cases e;decide),fS.turn E 3 rfl rfl rfl E.rd E.tk,d3.trans (eC.run _)⟩
   have hf:m1<la.length:=by have:=aD e6;omega
   have zf:(m1:Int)<(la.length:Int):=by omega
   rw[bH hf]at h;simp only[a4,cA,bR]at h;obtain⟨y,hy,rfl⟩:=h;have g7:=sY hy;have uy:=(E.ua la (aZ a4)).2 y (aZ hy);refine aK ?_;simp only[RR];refine aA fun K d=>?_;simp only[J,c9,t,e4,f7,g7,zf,RR,seval];apply d;refine aN ?_;simp only[aW,aJ,bN,RR,seval];exact aY.run ⟨y,a1,rfl,uy,(fun _ _ e=>by cases e;rfl),(fun _ _ e=>by cases e),E,d3⟩
 by_cases k4:k=4
 ·subst k4
  simp only[show ¬(4:Int)=1 by decide,show ¬(4:Int)=2 by decide,show ¬(4:Int)=3 by decide,dK,cT]at h;have a9:=hU ⟨s,4,l.length⟩ (by simp [nX,Ex.kind,Ex.name,Ex.kids]);have z:=a3;have hC:=fun H' g1 g2 g3=>ih.C i rs ow s l st vo H' x wv bk vl o d5 a9 d g1 g2 hu g3 h;obtain⟨HX,e0⟩: ∃X,X=H:=⟨_,rfl⟩;refine bX 232 [.tmp 6] func153 ?_;refine aA fun K d=>?_;simp only[RR,seval];refine aM fun L g=>?_;have N:=cY g t;have B:=N.symm;have Y:=cY g z;have W:=Y.symm;simp only[RR,seval];refine d _ _ (aI (aA fun K d=>?_));simp only[t,B,RR,seval];refine d _ _ (bL ?_);refine aK ?_;simp only[RR];refine aI (aA fun K d=>?_);simp only[RR,seval];refine d _ _ (aP (aA fun K d=>?_));simp only[RR,seval];refine d _ _ (bL (aA fun K d=>?_));simp only[RR,seval];refine d _ _ (bL (aA fun K d=>?_));simp only[RR,seval];refine d _ _ (bL (aA fun K d=>?_));simp only[RR,seval];refine d _ _ (cR (bM fun F1 M1 G A=>?_));have J:=G 0;have Q:=G 1;have O:=G 5;have f6:=G 6;have T:=A r;have U:=A x;have I:=A L;simp only[t,z,B,W,RR,seval]at J Q O f6 T U I;have hM:=funext A;have P:=(R.new g _).same A;have Z:=(hW.new g _).same A;have a0:eC r vv abs vo vo H M1:=by rw[hM];exact(eC.refl _ _ _ _ _).updN g _
  have t:=T;have z:=U;refine aA fun K d=>?_;simp only[J,Q,O,I,RR,seval];refine mO (hC _ P Z z) (fun _=>trivial) fun w a1 H1 uw c6 b3 E M=>?_;simp only[RR,seval];apply d;refine aN ?_;simp only[aW,aJ,bN,RR,seval];exact aY.run ⟨w,a1,rfl,uw,c6,b3,E,a0.trans M⟩
 by_cases k5:k=5
 ·subst k5
  simp only[show ¬(5:Int)=1 by decide,show ¬(5:Int)=2 by decide,show ¬(5:Int)=3 by decide,show ¬(5:Int)=4 by decide,dK,cT,Option.some.injEq]at h;have i8:=R.rd;have i6:=z.inp;by_cases hf:cx.inp.length≤st.read
  ·have zf:(cx.inp.length:Int)≤(st.read:Int):=by omega
   have e:zI cx st= .val 256 st:=by unfold zI;rw[dS hf]
   rw[e]at h;subst h;refine bX 232 [.tmp 6] func153 ?_;refine aA fun K d=>?_;simp only[RR,seval];refine aM fun L g=>?_;have N:=cY g t;have B:=N.symm;simp only[RR,seval];refine d _ _ (aI (aA fun K d=>?_));simp only[t,B,RR,seval];refine d _ _ (bL ?_);refine aK ?_;simp only[RR];refine aI (aA fun K d=>?_);simp only[RR,seval];refine d _ _ (aP (aA fun K d=>?_));simp only[RR,seval];refine d _ _ (bL (aA fun K d=>?_));simp only[RR,seval];refine d _ _ (bL (aA fun K d=>?_));simp only[RR,seval];refine d _ _ (bL (aA fun K d=>?_));simp only[RR,seval];refine d _ _ (bL (aA fun K d=>?_));simp only[RR,seval];refine d _ _ (cR (aI (aC fun K d=>?_)));refine bB (fun x=>x≠r∧x≠L) [(0,3),(1,3),(2,3),(3,1),(4,3),(5,3),(6,3),(7,1),(8,3),(9,3)] [] eF (by kernel_rfl) rfl rfl ?_;simp only[dR,t,B,zf,RR,seval];refine d _ _ (cR (aA fun K d=>?_));simp only[RR,seval];apply d;refine aN ?_;simp only[aW,aJ,bN,RR,seval];exact aY.run ⟨256,vo,rfl,by simp [dX],(fun _ _ e=>by cases e;rfl),(fun _ _ e=>by cases e),R.new g _,(eC.refl _ _ _ _ _).updN g _⟩
  have zf: ¬(cx.inp.length:Int)≤(st.read:Int):=by omega
  have hg:=aF (show st.read<cx.inp.length by omega);generalize cx.inp[st.read]=c at hg;have e:zI cx st= .val c.toNat {st with read:=st.read+1}:=by unfold zI;rw[hg]
  rw[e]at h;subst h;have S:IntKind.wrap .i64 ((st.read:Int)+1)=((st.read+1:Nat):Int):=by rw[aS _ (by omega)];omega
  have e3:IntKind.wrap .i64 (((st.read+1:Nat):Int)- 1)=(st.read:Int):=by rw[aS _ (by omega)];omega
  have hc:=UInt8.toNat_lt c;have g8:dX (c.toNat:Int):=⟨by omega,by omega⟩;have e2:IntKind.wrap .u32 (c.toNat:Int)=(c.toNat:Int):=by simp [IntKind.wrap,IntKind.signed,IntKind.bits];omega
  refine bX 232 [.tmp 6] func153 ?_;refine aA fun K d=>?_;simp only[RR,seval];refine aM fun L g=>?_;have N:=cY g t;have B:=N.symm;simp only[RR,seval];refine d _ _ (aI (aA fun K d=>?_));simp only[t,B,RR,seval];refine d _ _ (bL ?_);refine aK ?_;simp only[RR];refine aI (aA fun K d=>?_);simp only[RR,seval];refine d _ _ (aP (aA fun K d=>?_));simp only[RR,seval];refine d _ _ (bL (aA fun K d=>?_));simp only[RR,seval];refine d _ _ (bL (aA fun K d=>?_));simp only[RR,seval];refine d _ _ (bL (aA fun K d=>?_));simp only[RR,seval];refine d _ _ (bL (aA fun K d=>?_));simp only[RR,seval];refine d _ _ (cR (aI (aC fun K d=>?_)));refine bB (fun x=>x≠r∧x≠L) [(0,3),(1,3),(2,3),(3,1),(4,3),(5,3),(6,3),(7,1),(8,3),(9,3)] [] eF (by kernel_rfl) rfl rfl ?_;simp only[dR,t,B,zf,RR,seval];refine d _ _ (bL ?_);refine aK ?_;simp only[RR];refine aA fun K d=>?_;simp only[t,B,S,RR,seval];refine d _ _ (aC fun K d=>?_);refine bB (fun x=>x≠r∧x≠L) [(0,3),(1,3),(2,3),(3,1),(4,3),(5,3),(6,3),(7,1),(8,3),(9,3),(10,3),(11,3)] [] eF (by kernel_rfl) rfl rfl ?_;simp only[dR,hg,e2,e3,RR,seval];apply d;refine aN ?_;simp only[aW,aJ,bN,RR,seval];exact aY.run ⟨_,vo,rfl,g8,(fun _ _ e=>by cases e;rfl),(fun _ _ e=>by cases e),fS.turn (st':={st with read:=st.read+1}) (R.new g _) 0 rfl rfl rfl (by show st.read+1≤_;omega) R.tk,((eC.refl _ _ _ _ _).updN g _).trans (eC.run _)⟩
 simp only[aL k1,aL k2,aL k3,aL k4,aL k5]at h
 cases hl0:l[0]? with
 |none=>rw[hl0]at h;cases h
 |some a=>
  simp only[hl0]at h;have b1:=qG hl0;have z:=a3
  obtain⟨F,h1⟩: ∃F,kT cx n rs ow a st=some F:=by
   cases h1:kT cx n rs ow a st with
   |none=>
    rw[h1]at h;by_cases k7:k=7
    ·rw[bH k7]at h;cases h
    rw[aL k7]at h
    cases hl1:l[1]? with
    |none=>rw[hl1]at h;cases h
    |some b=>
     simp only[hl1]at h;by_cases k6:k=6
     ·rw[bH k6]at h;cases h
     rw[aL k6]at h;cases h
   |some F=>exact⟨F,rfl⟩
  rw[h1]at h;have a5:=fun H' g1 g2 g3=>hV 0 a hl0 st vo 0 H' F g1 g2 g3 (.inl ⟨rfl,h1⟩);rw[a.row_eq]at a5;obtain⟨HX,e0⟩: ∃X,X=H:=⟨_,rfl⟩;by_cases k7:k=7
  ·subst k7
   simp only[cT]at h;refine bX 232 [.tmp 6] func153 ?_;refine aA fun K d=>?_;simp only[RR,seval];refine aM fun L g=>?_;have N:=cY g t;have B:=N.symm;have Y:=cY g z;have W:=Y.symm;simp only[RR,seval];refine d _ _ (aI (aA fun K d=>?_));simp only[t,B,RR,seval];refine d _ _ (bL ?_);refine aK ?_;simp only[RR];refine aI (aA fun K d=>?_);simp only[RR,seval];refine d _ _ (aP (aA fun K d=>?_));simp only[RR,seval];refine d _ _ (bL (aA fun K d=>?_));simp only[RR,seval];refine d _ _ (bL (aA fun K d=>?_));simp only[RR,seval];refine d _ _ (bL (aA fun K d=>?_));simp only[RR,seval];refine d _ _ (bL (aA fun K d=>?_));simp only[RR,seval];refine d _ _ (bL (aA fun K d=>?_));simp only[RR,seval];refine d _ _ (bL (aA fun K d=>?_));simp only[RR,seval];refine d _ _ (cR (bM fun F1 M1 G A=>?_));have J:=G 0;have Q:=G 1;have O:=G 5;have f6:=G 6;have T:=A r;have U:=A x;have I:=A L;simp only[t,z,B,W,RR,seval]at J Q O f6 T U I;have hM:=funext A;have P:=(R.new g _).same A;have Z:=(hW.new g _).same A;have a0:eC r vv abs vo vo H M1:=by rw[hM];exact(eC.refl _ _ _ _ _).updN g _
   have t:=T;have z:=U;refine aA fun K d=>?_;simp only[J,Q,O,I,b1,RR,seval];refine mO (a5 _ P Z z) (fun _=>trivial) fun w a1 H1 uw c6 b3 E M=>?_;simp only[RR,seval];refine aO (Y4 _) ?_;simp only[RR,seval];apply d
   have c2: ∃w',(if decide (w=0)=true then(1:Int)else 0)=w'∧dX w'∧(∀v s,o= .val v s→w'=v)∧(∀e s,o= .fin e s→e≠0)∧mY o=mY F∧o.st=F.st:=by
    refine⟨_,rfl,by split<;>simp [dX], ?_⟩
    cases F with
    |fin S D=>
     obtain rfl:=Option.some.inj (show some (Rz.fin S D)=some o from h);exact⟨(fun _ _ e=>by cases e),b3,rfl,rfl⟩
    |val x1 D=>
     obtain rfl:=c6 _ _ rfl;obtain rfl:=Option.some.inj (show some (Rz.val (if w=0 then(1:Int)else 0) D)=some o from h);exact⟨(fun v s e=>by cases e;simp),(fun _ _ e=>by cases e),rfl,rfl⟩
   obtain⟨w',g9,i5,g1,g2,g3,g4⟩:=c2;rw[←g3,←g4]at E;refine aN ?_;simp only[aW,aJ,bN,RR,seval];exact aY.run ⟨_,a1,by rw[g9],i5,g1,g2,E,a0.trans M⟩
  rw[aL k7]at h
  cases hl1:l[1]? with
  |none=>rw[hl1]at h;cases h
  |some b=>
   simp only[hl1]at h;have d1:=qG hl1;have c8:=fun vo' g6 st' H' r2 g1 g2 g3 g4=>hV 1 b hl1 st' vo' g6 H' r2 g1 g2 g3 g4;rw[b.row_eq]at c8;by_cases k6:k=6
   ·subst k6
    simp only[cT]at h;refine bX 232 [.tmp 6] func153 ?_;refine aA fun K d=>?_;simp only[RR,seval];refine aM fun L g=>?_;have N:=cY g t;have B:=N.symm;have Y:=cY g z;have W:=Y.symm;simp only[RR,seval];refine d _ _ (aI (aA fun K d=>?_));simp only[t,B,RR,seval];refine d _ _ (bL ?_);refine aK ?_;simp only[RR];refine aI (aA fun K d=>?_);simp only[RR,seval];refine d _ _ (aP (aA fun K d=>?_));simp only[RR,seval];refine d _ _ (bL (aA fun K d=>?_));simp only[RR,seval];refine d _ _ (bL (aA fun K d=>?_));simp only[RR,seval];refine d _ _ (bL (aA fun K d=>?_));simp only[RR,seval];refine d _ _ (bL (aA fun K d=>?_));simp only[RR,seval];refine d _ _ (bL (aA fun K d=>?_));simp only[RR,seval];refine d _ _ (cR (bM fun F1 M1 G A=>?_));have J:=G 0;have Q:=G 1;have O:=G 5;have f6:=G 6;have T:=A r;have U:=A x;have I:=A L;simp only[t,z,B,W,RR,seval]at J Q O f6 T U I;have hM:=funext A;have P:=(R.new g _).same A;have Z:=(hW.new g _).same A;have a0:eC r vv abs vo vo H M1:=by rw[hM];exact(eC.refl _ _ _ _ _).updN g _
    have t:=T;have z:=U;refine aA fun K d=>?_;simp only[J,Q,O,I,b1,RR,seval];refine mO (a5 _ P Z z) (fun _=>trivial) fun w1 a1 H1 b6 b0 a8 E M=>?_;obtain⟨r2,c1,f3⟩:=SA a8 h;have t:=E.r;have z:=P.keep z (by decide) (by decide) M;have I:=P.keep I (by decide) (by decide) M;have b8:=Z.keep P M;simp only[RR,seval];refine d _ _ (aA fun K d=>?_);simp only[J,Q,O,I,d1,RR,seval];refine mO (c8 _ _ _ _ _ E b8 z c1) (fun _=>trivial) fun w2 a7 H2 b7 c7 b4 a2 b2=>?_;have t:=a2.r;have I:=E.keep I (by decide) (by decide) b2;have d4:=(a0.trans M).trans b2;simp only[RR,seval];refine d _ _ (aI (aA fun K d=>?_));simp only[J,t,RR,seval];refine d _ _ (aU ?_ ?_)<;>intro e7
    ·obtain⟨S,D,g0⟩:=sJ (o:=r2) (by simpa using e7)
     have ho:o=r2:=by
      rcases f3 with⟨x1,j2,_,_,h4⟩|⟨e2,s2,_,h3,h4⟩
      ·rw[g0]at h4⊢
       exact(Option.some.inj (show some (Rz.fin S D)=some o from h4)).symm
      rw[h3,h4]
     subst ho;refine aA fun K d=>?_;simp only[RR,seval];apply d;refine aN ?_;simp only[aW,aJ,bN,RR,seval];exact aY.run ⟨0,a7,rfl,by simp [dX],(fun _ _ e=>by rw[g0]at e;cases e),b4,a2,d4⟩
    obtain⟨x2,s2,rfl⟩:=sI (o:=r2) b4 (by simpa using e7);obtain rfl:=c7 _ _ rfl
    obtain⟨x1,D,rfl,h2,h3⟩: ∃x D,F= .val x D∧kT cx n rs ow b D=some (.val w2 s2)∧bindR (some (.val w2 s2)) (fun y st=>if(eR op x y).2=0 then some (Rz.val (eR op x y).1 st)else some (.fin 2 st))=some o:=by
     rcases f3 with⟨x1,D,q1,q2,q3⟩|⟨e2,s3,_,q3,_⟩
     ·exact⟨x1,D,q1,q2,q3⟩
     cases q3
    obtain rfl:=b0 _ _ rfl;simp only[bindR]at h3;have hA:=Lx op b6 b7;have uA:=Lh op b6 b7;generalize eR op w1 w2=q at hA uA h3;obtain⟨q1,q2⟩:=q;have t:H2 r=_:=a2.r;have d6:(Rz.val w2 s2).st=s2:=rfl;have d0:mY (Rz.val w2 s2)=0:=rfl;rw[d6,d0]at t;refine aK ?_;simp only[RR];refine aA fun K d=>?_;simp only[O,I,RR,seval];refine aO (hA) ?_;simp only[RR,seval];refine d _ _ (aI (aA fun K d=>?_));simp only[RR,seval];refine d _ _ (aU ?_ ?_)<;>intro e8
    ·rw[aL (show ¬q2=0 by simpa using e8)]at h3
     cases h3;have c3:=And.intro (fS.turn a2 2 rfl rfl rfl a2.rd a2.tk) (d4.trans (eC.run (some (.rows 11 [[.isl 1 (p.vars.map bQ), .isl 2 (p.arrs.map Ar.row), .isl 5 (p.funs.map Fu.row), .str cx.inp, .int .i64 cx.fuel,vv, .isl 1 (fU abs s2.arrs),a7, .int .i64 s2.read, .int .i64 s2.ticks, .int .i64 2]]))));have c4:(∀v s,(Rz.fin 2 s2:Rz Int)= .val v s→q1=v)∧ ∀e s,(Rz.fin 2 s2:Rz Int)= .fin e s→e≠0:=⟨(fun _ _ e=>by cases e),fun _ _ e=>by cases e;decide⟩;refine aG ?_;simp only[J,t,RR,seval];refine aA fun K d=>?_;simp only[RR,seval];apply d;refine aN ?_;simp only[aW,aJ,bN,RR,seval];exact aY.run ⟨q1,a7,rfl,uA,c4.1,c4.2,c3.1,c3.2⟩
    rw[bH (show q2=0 by simpa using e8)]at h3;cases h3;have c3:=And.intro a2 d4;have c4:(∀v s,(Rz.val q1 s2:Rz Int)= .val v s→q1=v)∧ ∀e s,(Rz.val q1 s2:Rz Int)= .fin e s→e≠0:=⟨(fun _ _ e=>by cases e;rfl),fun _ _ e=>by cases e⟩;refine aK ?_;simp only[RR];refine aA fun K d=>?_;simp only[RR,seval];apply d;refine aN ?_;simp only[aW,aJ,bN,RR,seval];exact aY.run ⟨q1,a7,rfl,uA,c4.1,c4.2,c3.1,c3.2⟩
   rw[aL k6]at h;by_cases k8:k=8
   ·subst k8
    have k8:decide ((8:Int)=8)=true:=rfl;refine bX 232 [.tmp 6] func153 ?_;refine aA fun K d=>?_;simp only[RR,seval];refine aM fun L g=>?_;have N:=cY g t;have B:=N.symm;have Y:=cY g z;have W:=Y.symm;simp only[RR,seval];refine d _ _ (aI (aA fun K d=>?_));simp only[t,B,RR,seval];refine d _ _ (bL ?_);refine aK ?_;simp only[RR];refine aI (aA fun K d=>?_);simp only[RR,seval];refine d _ _ (aP (aA fun K d=>?_));simp only[RR,seval];refine d _ _ (bL (aA fun K d=>?_));simp only[RR,seval];refine d _ _ (bL (aA fun K d=>?_));simp only[RR,seval];refine d _ _ (bL (aA fun K d=>?_));simp only[RR,seval];refine d _ _ (bL (aA fun K d=>?_));simp only[RR,seval];refine d _ _ (bL (aA fun K d=>?_));simp only[RR,seval];refine d _ _ (bL (aA fun K d=>?_));simp only[RR,seval];refine d _ _ (bL (aA fun K d=>?_));simp only[RR,seval];refine d _ _ (cR (aI (bM fun F1 M1 G A=>?_)));have J:=G 0;have Q:=G 1;have O:=G 5;have f6:=G 6;have T:=A r;have U:=A x;have I:=A L;simp only[t,z,B,W,RR,seval]at J Q O f6 T U I;have hM:=funext A;have P:=(R.new g _).same A;have Z:=(hW.new g _).same A;have a0:eC r vv abs vo vo H M1:=by rw[hM];exact(eC.refl _ _ _ _ _).updN g _
    have t:=T;have z:=U;refine aA fun K d=>?_;simp only[J,Q,O,I,b1,RR,seval];refine mO (a5 _ P Z z) (fun _=>trivial) fun w1 a1 H1 b6 b0 a8 E M=>?_;have t:=E.r;have z:=P.keep z (by decide) (by decide) M;have I:=P.keep I (by decide) (by decide) M;have b8:=Z.keep P M;simp only[RR,seval];refine d _ _ (aU ?_ ?_)<;>intro e9
    ·have a6:w1=0:=aB e9
     have c2:(∀v s,o= .val v s→w1=v)∧(∀e s,o= .fin e s→e≠0)∧mY o=mY F∧o.st=F.st:=by
      cases F with
      |fin S D=>
       obtain rfl:=Option.some.inj (show some (Rz.fin S D)=some o from h);exact⟨(fun _ _ e=>by cases e),a8,rfl,rfl⟩
      |val x1 D=>
       obtain rfl:=b0 _ _ rfl;simp only[bindR]at h;rw[bH (by simp [a6])]at h;cases h;exact⟨(fun v s e=>by cases e;rfl),(fun _ _ e=>by cases e),rfl,rfl⟩
     obtain⟨g1,g2,g3,g4⟩:=c2;rw[←g3,←g4]at E;subst a6;refine aA fun K d=>?_;simp only[RR,seval];apply d;refine aN ?_;simp only[aW,aJ,bN,RR,seval];exact aY.run ⟨0,a1,rfl,b6,g1,g2,E,a0.trans M⟩
    have a6: ¬w1=0:=aD e9
    have c1:vG (mY F) F.st (kT cx n rs ow b F.st) o:=by
     cases F with
     |fin S D=>
      obtain rfl:=Option.some.inj (show some (Rz.fin S D)=some o from h);exact .inr ⟨a8 _ _ rfl,rfl⟩
     |val x1 D=>
      obtain rfl:=b0 _ _ rfl;simp only[bindR]at h;rw[aL (by simp [a6])]at h;exact .inl ⟨rfl,h⟩
    refine aK ?_;simp only[RR];refine aA fun K d=>?_;simp only[J,Q,O,I,d1,RR,seval];refine mO (c8 _ _ _ _ _ E b8 z c1) (fun _=>trivial) fun w2 a7 H2 b7 c7 b4 a2 b2=>?_;simp only[RR,seval];apply d;refine aN ?_;simp only[aW,aJ,bN,RR,seval];exact aY.run ⟨w2,a7,rfl,b7,c7,b4,a2,(a0.trans M).trans b2⟩
   skip;refine bX 232 [.tmp 6] func153 ?_;refine aA fun K d=>?_;simp only[RR,seval];refine aM fun L g=>?_;have N:=cY g t;have B:=N.symm;have Y:=cY g z;have W:=Y.symm;simp only[RR,seval];refine d _ _ (aI (aA fun K d=>?_));simp only[t,B,RR,seval];refine d _ _ (bL ?_);refine aK ?_;simp only[RR];refine aI (aA fun K d=>?_);simp only[RR,seval];refine d _ _ (aP (aA fun K d=>?_));simp only[k1,RR,seval];refine d _ _ (bL (aA fun K d=>?_));simp only[k2,RR,seval];refine d _ _ (bL (aA fun K d=>?_));simp only[k3,RR,seval];refine d _ _ (bL (aA fun K d=>?_));simp only[k4,RR,seval];refine d _ _ (bL (aA fun K d=>?_));simp only[k5,RR,seval];refine d _ _ (bL (aA fun K d=>?_));simp only[k6,RR,seval];refine d _ _ (bL (aA fun K d=>?_));simp only[k7,RR,seval];refine d _ _ (bL (aA fun K d=>?_));simp only[k8,RR,seval];refine d _ _ (bL ?_);refine aK ?_;simp only[RR];refine bM fun F1 M1 G A=>?_;have J:=G 0;have Q:=G 1;have O:=G 5;have f6:=G 6;have T:=A r;have U:=A x;have I:=A L;simp only[t,z,B,W,RR,seval]at J Q O f6 T U I;have hM:=funext A;have P:=(R.new g _).same A;have Z:=(hW.new g _).same A;have a0:eC r vv abs vo vo H M1:=by rw[hM];exact(eC.refl _ _ _ _ _).updN g _
   have t:=T;have z:=U;refine aA fun K d=>?_;simp only[J,Q,O,I,b1,RR,seval];refine mO (a5 _ P Z z) (fun _=>trivial) fun w1 a1 H1 b6 b0 a8 E M=>?_;have t:=E.r;have z:=P.keep z (by decide) (by decide) M;have I:=P.keep I (by decide) (by decide) M;have b8:=Z.keep P M;simp only[RR,seval];refine d _ _ (aI (aA fun K d=>?_));simp only[RR,seval];refine d _ _ (aU ?_ ?_)<;>intro f2
   ·have a6: ¬w1=0:=by simpa using f2
    have c2:(∀v s,o= .val v s→w1=v)∧(∀e s,o= .fin e s→e≠0)∧mY o=mY F∧o.st=F.st:=by
     cases F with
     |fin S D=>
      obtain rfl:=Option.some.inj (show some (Rz.fin S D)=some o from h);exact⟨(fun _ _ e=>by cases e),a8,rfl,rfl⟩
     |val x1 D=>
      obtain rfl:=b0 _ _ rfl;simp only[bindR]at h;rw[bH (by simp [a6,k8])]at h;cases h;exact⟨(fun v s e=>by cases e;rfl),(fun _ _ e=>by cases e),rfl,rfl⟩
    obtain⟨g1,g2,g3,g4⟩:=c2;rw[←g3,←g4]at E;refine aA fun K d=>?_;simp only[RR,seval];apply d;refine aN ?_;simp only[aW,aJ,bN,RR,seval];exact aY.run ⟨w1,a1,rfl,b6,g1,g2,E,a0.trans M⟩
   have a6:w1=0:=by simpa using f2
   have c1:vG (mY F) F.st (kT cx n rs ow b F.st) o:=by
    cases F with
    |fin S D=>
     obtain rfl:=Option.some.inj (show some (Rz.fin S D)=some o from h);exact .inr ⟨a8 _ _ rfl,rfl⟩
    |val x1 D=>
     obtain rfl:=b0 _ _ rfl;simp only[bindR]at h;rw[aL (by simp [a6,k8])]at h;exact .inl ⟨rfl,h⟩
   refine aK ?_;simp only[RR];refine aA fun K d=>?_;simp only[J,Q,O,I,d1,RR,seval];refine mO (c8 _ _ _ _ _ E b8 z c1) (fun _=>trivial) fun w2 a7 H2 b7 c7 b4 a2 b2=>?_;simp only[RR,seval];apply d;refine aN ?_;simp only[aW,aJ,bN,RR,seval];exact aY.run ⟨w2,a7,rfl,b7,c7,b4,a2,(a0.trans M).trans b2⟩
end
section
variable {p : Pg} {cx : Cx} {r : Nat} {vv : AV} {abs : List Nat} {n : Nat}
theorem AW (ih:Bn p cx r vv abs n) (hj:DC p cx) (i:Nat) (B:dC→Bool×Int) (ow:List Int) (e:Sm) (c0:e.kind=1) (st:RS) (vo:AV) (H:Hp) (x:Nat) (wv:AV) (o:Rz (Option Int×List Int)) (he:e.ok) (hU: ∀u∈lM e,UJ p i B u) (a5: ∀u∈fY e.es,UJ p i B u) (c5: ∀u∈eK e.thn,UJ p i B u) (c6: ∀u∈eK e.els,UJ p i B u) (hR:fS p cx r vv abs st vo 0 H) (hW:iH vv abs vo wv ow H) (G: ∀y∈ow,dX y) (g:H x=some (.rows 4 [[.int .i64 i,wv, .bool false, .int .u32 0]])) (h:pN cx (n+1) B ow e st=some o):
  oN dV 104 [.ptr 11 r 0 0, .ptr 4 x 0 0, .agg e.row] H (tB p cx r vv abs vo x i wv ow.length H o):=by
 obtain⟨k,s,l,t,u⟩:=e;have C:=hR.r;have b9:=he.es;have d1:=he.thn;have c7:=he.els;simp only[Sm.es,Sm.thn,Sm.els,Sm.kind]at b9 d1 c7 a5 c5 c6 c0;have c2:(Sm.mk k s l t u).row=[.int .i64 k, .str s, .isl 5 (l.map Ex.row), .isl 5 (t.map Sm.row), .isl 5 (u.map Sm.row)]:=Sm.row_eq _;rw[c2];clear c2;have d8:x≠r:=fun e=>by rw[e,C]at g;cases g
 have e0:=d8.symm;simp only[pN]at h;have hV:=fun(j:Nat) (a:Ex) (hj:l[j]?=some a) st vo en H o h3 h4 h5 h6=>ih.V i B ow a st vo en H x wv false 0 o (b9.all _ (aZ hj)) (fun u G=>a5 u ((gC (aZ hj)).1 u G)) (fun u G=>a5 u ((gC (aZ hj)).2 u G)) h3 h4 G h5 h6;have d0:p.av= .agg [.isl 1 (p.vars.map bQ), .isl 2 (p.arrs.map Ar.row), .isl 5 (p.funs.map Fu.row)]:=rfl;obtain⟨HX,d9⟩: ∃X,X=H:=⟨_,rfl⟩;subst c0;simp only[cT]at h;have c3:=hU ⟨s,1,0⟩ (by simp [lM,Sm.kind,Sm.name]);have Q:=c3.f;rw[d0]at Q;simp only at Q;have hk:=c3.k1;generalize eT p i s=fi at Q hk;obtain⟨kk,b⟩:=fi;simp only at Q hk
 cases hl0:l[0]? with
 |none=>rw[hl0]at h;cases h
 |some a=>
  simp only[hl0]at h;have c8:=qG hl0
  obtain⟨J,E⟩: ∃J,kT cx n B ow a st=some J:=by
   cases E:kT cx n B ow a st with
   |none=>rw[E]at h;cases h
   |some J=>exact⟨J,rfl⟩
  rw[E]at h;have b4:=fun H' N O P=>hV 0 a hl0 st vo 0 H' J N O P (.inl ⟨rfl,E⟩);rw[a.row_eq]at b4;refine bX 251 [] func104 ?_;refine aA fun K v=>?_;simp only[RR,seval];refine aM fun b5 S=>?_;have d3:=cY S C;have d6:=d3.symm;have d4:=cY S g;have d7:=d4.symm;simp only[RR,seval];refine v _ _ (aA fun K v=>?_);simp only[RR,seval];refine v _ _ (aP (aA fun K v=>?_));simp only[RR,seval];refine v _ _ (cR (bM fun F1 M1 a7 L=>?_));have M:=a7 0;have Y:=a7 1;have f5:=a7 5;have gr:=L r;have gx:=L x;have R:=L b5;simp only[C,g,d6,d7,RR,seval]at M Y f5 gr gx R;have hM:=funext L;have Z:=(hR.new S _).same L;have b6:=(hW.new S _).same L;have c9:eC r vv abs vo vo H M1:=by rw[hM];exact(eC.refl _ _ _ _ _).updN S _
  have C:=gr;have g:=gx;refine aA fun K v=>?_;simp only[M,Y,f5,R,c8,RR,seval];refine mO (b4 _ Z b6 g) (fun _=>trivial) fun d T H1 c4 d2 c1 A a3=>?_;have C:=A.r;have g:=Z.keep g (by decide) (by decide) a3;have R:=Z.keep R (by decide) (by decide) a3;have F:=b6.keep Z a3;have a9:=(c9.trans a3).w x wv;simp only[RR,seval];refine v _ _ (aI (aA fun K v=>?_));simp only[M,C,RR,seval];refine v _ _ (aU ?_ ?_)<;>intro b7
  ·obtain⟨e1,c,rfl⟩:=sJ (o:=J) (by simpa using b7)
   obtain rfl:=Option.some.inj (show some (Rz.fin e1 c)=some o from h);refine aN ?_;simp only[aW,aJ,bN,RR,seval];exact aY.run ⟨ow,false,0,T,rfl,rfl,G,by simp [dX],(fun _=>rfl),(fun _ _ e=>by cases e),(fun e s h=>by cases h;exact c1 _ _ rfl),g,F,A,a9⟩
  obtain⟨x1,c,rfl⟩:=sI (o:=J) c1 (by simpa using b7);obtain rfl:=d2 _ _ rfl;have h:(Sj (B s) d ow c).map (fun p=>Rz.val ((none:Option Int),p.1) p.2)=some o:=h;unfold Sj at h;by_cases z:0≤(B s).2
  rotate_left
  ·rw[aL z]at h;cases h
  rw[bH z]at h;have A:fS p cx r vv abs c T 0 H1:=A;have C:=A.r;refine aK ?_;simp only[RR];refine aC fun K v=>?_;refine bB (fun x=>x≠r∧x≠x∧x≠b5) [(0,3),(1,3),(2,3),(3,1),(4,3),(5,3),(6,3),(7,1),(8,3),(9,1),(10,1),(11,3),(12,3),(13,3),(14,3),(15,3)] [] eF (by kernel_rfl) rfl rfl ?_;simp only[dR,M,Y,f5,C,g,R,RR,seval];refine aO (Q) ?_;simp only[RR,seval];refine v _ _ (aA fun K v=>?_);simp only[RR,seval];apply v
  have b8:(kk=1∧0≤b∧ ∃y,ow[b.toNat]?=some y∧b<(ow.length:Int)∧o= .val (none,ow.set b.toNat d) c)∨(kk=2∧0≤b∧ ∃y,c.vars[b.toNat]?=some y∧b<(c.vars.length:Int)∧o= .val (none,ow) {c with vars:=c.vars.set b.toNat d}):=by
   rcases hk with⟨E,h2⟩|⟨E,h2⟩
   ·rw[h2]at h z
    simp only[cT]at h z;by_cases I:b.toNat<ow.length
    ·rw[bH I]at h
     exact .inl ⟨E,z,_,aF I,by omega,(Option.some.inj h).symm⟩
    rw[aL I]at h;cases h
   rw[h2]at h z;simp only[cH,dK]at h z;by_cases I:b.toNat<c.vars.length
   ·rw[bH I]at h
    exact .inr ⟨E,z,_,aF I,by omega,(Option.some.inj h).symm⟩
   rw[aL I]at h;cases h
  refine aU ?_ ?_<;>intro a2
  ·rcases b8 with⟨_,z,y,D,zl,rfl⟩|⟨b0,_⟩
   rotate_left
   ·rw[b0]at a2;cases a2
   obtain⟨U,rfl,a0⟩:=F.osl D;have a4:U≠r:=A.nr a0;have b2:U≠x:=fun e=>by rw[e,g]at a0;cases a0
   have d5:r≠U:=fun e=>a4 e.symm;have b3:x≠U:=fun e=>b2 e.symm;have a8:=sY D;refine aG ?_;simp only[Y,g,a0,z,zl,a8,RR,seval];have N:=A.other a4 (F.nv _ _ _ rfl) (F.na _ _ _ rfl) (F.nf _ _ _ rfl) (some (.rows 1 ((ow.map gL).set b.toNat [.int .u32 d])));have O:=F.set b.toNat d;have P:=a9.words (some (.rows 1 ((ow.map gL).set b.toNat [.int .u32 d])));have g4:(ow.set b.toNat d).length=ow.length:=by simp
   have g5: ∀y∈ow.set b.toNat d,dX y:=fun y D=>by
    rcases pG D with D|rfl
    ·exact G y D
    exact c4
   have a6: ∀q s,Rz.val ((none:Option Int),ow.set b.toNat d) c= .val q s→ow.set b.toNat d=q.2∧false=q.1.isSome∧(0:Int)=q.1.getD 0:=fun q s e=>by cases e;exact⟨rfl,rfl,rfl⟩
   have b1:=(cI H1 (some (.rows 1 ((ow.map gL).set b.toNat [.int .u32 d]))) b3).trans g;simp only[aW,aJ,bN,seval];exact aY.run ⟨_,false,0,T,rfl,g4,g5,by simp [dX],(fun _=>rfl),a6,(fun _ _ e=>by cases e),b1,O,N,P⟩
  rcases b8 with⟨b0,_⟩|⟨_,z,y,D,zl,rfl⟩
  ·rw[b0]at a2;cases a2
  obtain⟨W,rfl,a1⟩:=A.osl D;have a4:W≠r:=A.nr a1;have b2:W≠x:=fun e=>by rw[e,g]at a1;cases a1
  have d5:r≠W:=fun e=>a4 e.symm;have b3:x≠W:=fun e=>b2 e.symm;have a8:=sY D;refine aG ?_;simp only[M,C,a1,z,zl,a8,RR,seval];have N:=fS.setV A b.toNat d c4;have O:=F.off F.offv (some (.rows 1 ((c.vars.map gL).set b.toNat [.int .u32 d])));have P:=a9.trans ((eC.vars (r:=r) (abs:=abs) (vo:=T) (H:=H1) rfl (some (.rows 1 ((c.vars.map gL).set b.toNat [.int .u32 d])))).w x wv);have g4:ow.length=ow.length:=rfl;have g5:=G;have a6: ∀q s,Rz.val ((none:Option Int),ow) {c with vars:=c.vars.set b.toNat d}= .val q s→ow=q.2∧false=q.1.isSome∧(0:Int)=q.1.getD 0:=fun q s e=>by cases e;exact⟨rfl,rfl,rfl⟩
  have b1:=(cI H1 (some (.rows 1 ((c.vars.map gL).set b.toNat [.int .u32 d]))) b3).trans g;simp only[aW,aJ,bN,seval];exact aY.run ⟨_,false,0,T,rfl,g4,g5,by simp [dX],(fun _=>rfl),a6,(fun _ _ e=>by cases e),b1,O,N,P⟩
theorem Yk (Z:Bn p cx r vv abs n) (D:DC p cx) (i:Nat) (c:dC→Bool×Int) (ow:List Int) (e:Sm) (W:e.kind=6) (st:RS) (vo:AV) (H:Hp) (x:Nat) (wv:AV) (o:Rz (Option Int×List Int)) (G:e.ok) (hU: ∀u∈lM e,UJ p i c u) (B: ∀u∈fY e.es,UJ p i c u) (a0: ∀u∈eK e.thn,UJ p i c u) (a1: ∀u∈eK e.els,UJ p i c u) (R:fS p cx r vv abs st vo 0 H) (hW:iH vv abs vo wv ow H) (g: ∀y∈ow,dX y) (d:H x=some (.rows 4 [[.int .i64 i,wv, .bool false, .int .u32 0]])) (h:pN cx (n+1) c ow e st=some o):
  oN dV 104 [.ptr 11 r 0 0, .ptr 4 x 0 0, .agg e.row] H (tB p cx r vv abs vo x i wv ow.length H o):=by
 obtain⟨k,s,l,t,u⟩:=e;have E:=R.r;have I:=G.es;have a8:=G.thn;have a3:=G.els;simp only[Sm.es,Sm.thn,Sm.els,Sm.kind]at I a8 a3 B a0 a1 W;have Y:(Sm.mk k s l t u).row=[.int .i64 k, .str s, .isl 5 (l.map Ex.row), .isl 5 (t.map Sm.row), .isl 5 (u.map Sm.row)]:=Sm.row_eq _;rw[Y];clear Y;have b4:x≠r:=fun e=>by rw[e,E]at d;cases d
 have c0:=b4.symm;simp only[pN]at h;have hV:=fun(j:Nat) (a:Ex) (D:l[j]?=some a) st vo en H o h3 h4 h5 h6=>Z.V i c ow a st vo en H x wv false 0 o (I.all _ (aZ D)) (fun u g=>B u ((gC (aZ D)).1 u g)) (fun u g=>B u ((gC (aZ D)).2 u g)) h3 h4 g h5 h6;have b8:p.av= .agg [.isl 1 (p.vars.map bQ), .isl 2 (p.arrs.map Ar.row), .isl 5 (p.funs.map Fu.row)]:=rfl;obtain⟨HX,b7⟩: ∃X,X=H:=⟨_,rfl⟩;subst W;simp only[show ¬(6:Int)=1 by decide,show ¬(6:Int)=2 by decide,show ¬(6:Int)=3 by decide,show ¬(6:Int)=4 by decide,show ¬(6:Int)=5 by decide,dK,cT]at h;have a9:=hU ⟨s,4,l.length⟩ (by simp [lM,Sm.kind,Sm.name,Sm.es])
 obtain⟨f,A⟩: ∃f,Ug cx n c ow (c s).2 l st=some f:=by
  cases A:Ug cx n c ow (c s).2 l st with
  |none=>rw[A]at h;cases h
  |some f=>exact⟨f,rfl⟩
 rw[A]at h;have hC:=fun H' g1 g2 g3=>Z.C i c ow s l st vo H' x wv false 0 f I a9 B g1 g2 g g3 A;refine bX 251 [] func104 ?_;refine aA fun K b=>?_;simp only[RR,seval];refine aM fun b5 z=>?_;have b0:=cY z E;have b2:=b0.symm;have b1:=cY z d;have b3:=b1.symm;simp only[RR,seval];refine b _ _ (aA fun K b=>?_);simp only[RR,seval];refine b _ _ (aP (aA fun K b=>?_));simp only[RR,seval];refine b _ _ (bL (aA fun K b=>?_));simp only[RR,seval];refine b _ _ (bL (aA fun K b=>?_));simp only[RR,seval];refine b _ _ (bL (aA fun K b=>?_));simp only[RR,seval];refine b _ _ (bL (aA fun K b=>?_));simp only[RR,seval];refine b _ _ (bL (aA fun K b=>?_));simp only[RR,seval];refine b _ _ (cR (bM fun F1 M1 J v=>?_));have M:=J 0;have N:=J 1;have O:=J 5;have P:=v r;have Q:=v x;have U:=v b5;simp only[E,d,b2,b3,RR,seval]at M N O P Q U;have hM:=funext v;have F:=(R.new z _).same v;have T:=(hW.new z _).same v;have a5:eC r vv abs vo vo H M1:=by rw[hM];exact(eC.refl _ _ _ _ _).updN z _
 have E:=P;have d:=Q;refine aG ?_;simp only[M,N,O,U,RR,seval];refine mO (hC _ F T d) (fun _=>trivial) fun w1 b6 H1 c1 b9 a7 S L=>?_;have d:=F.keep d (by decide) (by decide) L;have a2:=T.keep F L;have a6:=(a5.trans L).w x wv
 have a4:(∀q s,o= .val q s→ow=q.2∧false=q.1.isSome∧(0:Int)=q.1.getD 0)∧(∀e s,o= .fin e s→e≠0)∧o.st=f.st∧mY o=mY f:=by
  cases f with
  |fin e s=>
   obtain rfl:=Option.some.inj (show some (Rz.fin e s)=some o from h);exact⟨(fun _ _ e=>by cases e),(fun _ _ h=>by cases h;exact a7 _ _ rfl),rfl,rfl⟩
  |val y s=>
   obtain rfl:=Option.some.inj (show some (Rz.val ((none:Option Int),ow) s)=some o from h);exact⟨(fun _ _ e=>by cases e;exact⟨rfl,rfl,rfl⟩),(fun _ _ e=>by cases e),rfl,rfl⟩
 obtain⟨q1,q2,q3,q4⟩:=a4;rw[←q3,←q4]at S;simp only[RR,seval];simp only[aW,aJ,bN,seval];exact aY.run ⟨ow,false,0,b6,rfl,rfl,g,by simp [dX],(fun _=>rfl),q1,q2,d,a2,S,a6⟩
theorem J4 (Z:Bn p cx r vv abs n) (v:DC p cx) (i:Nat) (g:dC→Bool×Int) (ow:List Int) (e:Sm) (I:e.kind≠1∧e.kind≠2∧e.kind≠3∧e.kind≠4∧e.kind≠5∧e.kind≠6∧e.kind≠7) (st:RS) (vo:AV) (H:Hp) (x:Nat) (wv:AV) (o:Rz (Option Int×List Int)) (E:e.ok) (hU: ∀u∈lM e,UJ p i g u) (D: ∀u∈fY e.es,UJ p i g u) (R: ∀u∈eK e.thn,UJ p i g u) (S: ∀u∈eK e.els,UJ p i g u) (F:fS p cx r vv abs st vo 0 H) (T:iH vv abs vo wv ow H) (d: ∀y∈ow,dX y) (f:H x=some (.rows 4 [[.int .i64 i,wv, .bool false, .int .u32 0]])) (h:pN cx (n+1) g ow e st=some o):
  oN dV 104 [.ptr 11 r 0 0, .ptr 4 x 0 0, .agg e.row] H (tB p cx r vv abs vo x i wv ow.length H o):=by
 obtain⟨k,s,l,t,u⟩:=e;have J:=F.r;have G:=E.es;have W:=E.thn;have U:=E.els;simp only[Sm.es,Sm.thn,Sm.els,Sm.kind]at G W U D R S I;have L:(Sm.mk k s l t u).row=[.int .i64 k, .str s, .isl 5 (l.map Ex.row), .isl 5 (t.map Sm.row), .isl 5 (u.map Sm.row)]:=Sm.row_eq _;rw[L];clear L;have a2:x≠r:=fun e=>by rw[e,J]at f;cases f
 have a6:=a2.symm;simp only[pN]at h;have hV:=fun(j:Nat) (a:Ex) (v:l[j]?=some a) st vo en H o N O P Q=>Z.V i g ow a st vo en H x wv false 0 o (G.all _ (aZ v)) (fun u d=>D u ((gC (aZ v)).1 u d)) (fun u d=>D u ((gC (aZ v)).2 u d)) N O d P Q;have a4:p.av= .agg [.isl 1 (p.vars.map bQ), .isl 2 (p.arrs.map Ar.row), .isl 5 (p.funs.map Fu.row)]:=rfl;obtain⟨HX,a3⟩: ∃X,X=H:=⟨_,rfl⟩;obtain⟨k1,z,k3,k4,A,B,C⟩:=I;rw[aL k1,aL z,aL k3,aL k4,aL A,aL B,aL C]at h;cases h;have k1: ¬k=1:=k1;have z: ¬k=2:=z;have k3: ¬k=3:=k3;have k4: ¬k=4:=k4;have A: ¬k=5:=A;have B: ¬k=6:=B;have C: ¬k=7:=C;refine bX 251 [] func104 ?_;refine aA fun K b=>?_;simp only[RR,seval];refine aM fun M c=>?_;have a0:=cY c J;have a5:=a0.symm;have a1:=cY c f;have a7:=a1.symm;simp only[RR,seval];refine b _ _ (aA fun K b=>?_);simp only[RR,seval];refine b _ _ (aP (aA fun K b=>?_));simp only[k1,RR,seval];refine b _ _ (bL (aA fun K b=>?_));simp only[z,RR,seval];refine b _ _ (bL (aA fun K b=>?_));simp only[k3,RR,seval];refine b _ _ (bL (aA fun K b=>?_));simp only[k4,RR,seval];refine b _ _ (bL (aA fun K b=>?_));simp only[A,RR,seval];refine b _ _ (bL (aA fun K b=>?_));simp only[B,RR,seval];refine b _ _ (bL (aA fun K b=>?_));simp only[C,RR,seval];refine b _ _ (bL ?_);refine aK ?_;simp only[RR];simp only[aW,aJ,bN,seval];have Y:=(cI H (some (.rows 5 [[.int .i64 k, .str s, .isl 5 (l.map Ex.row), .isl 5 (t.map Sm.row), .isl 5 (u.map Sm.row)]])) (show x≠M from fun e=>by rw[e,c]at f;cases f)).trans f;exact aY.run ⟨ow,false,0,vo,rfl,rfl,d,by simp [dX],(fun _=>rfl),(fun _ _ e=>by cases e;exact⟨rfl,rfl,rfl⟩),(fun _ _ e=>by cases e),Y,T.new c _,F.new c _,((eC.refl _ _ _ _ _).updN c _).w x wv⟩
theorem AY (ih:Bn p cx r vv abs n) (M:DC p cx) (i:Nat) (z:dC→Bool×Int) (ow:List Int) (e:Sm) (a7:e.kind=7) (st:RS) (vo:AV) (H:Hp) (x:Nat) (wv:AV) (o:Rz (Option Int×List Int)) (he:e.ok) (hU: ∀u∈lM e,UJ p i z u) (Y: ∀u∈fY e.es,UJ p i z u) (b1: ∀u∈eK e.thn,UJ p i z u) (b2: ∀u∈eK e.els,UJ p i z u) (Z:fS p cx r vv abs st vo 0 H) (hW:iH vv abs vo wv ow H) (A: ∀y∈ow,dX y) (c:H x=some (.rows 4 [[.int .i64 i,wv, .bool false, .int .u32 0]])) (h:pN cx (n+1) z ow e st=some o):
  oN dV 104 [.ptr 11 r 0 0, .ptr 4 x 0 0, .agg e.row] H (tB p cx r vv abs vo x i wv ow.length H o):=by
 obtain⟨k,s,l,t,u⟩:=e;have I:=Z.r;have a6:=he.es;have c2:=he.thn;have b3:=he.els;simp only[Sm.es,Sm.thn,Sm.els,Sm.kind]at a6 c2 b3 Y b1 b2 a7;have a8:(Sm.mk k s l t u).row=[.int .i64 k, .str s, .isl 5 (l.map Ex.row), .isl 5 (t.map Sm.row), .isl 5 (u.map Sm.row)]:=Sm.row_eq _;rw[a8];clear a8;have c4:x≠r:=fun e=>by rw[e,I]at c;cases c
 have c9:=c4.symm;simp only[pN]at h;have hV:=fun(j:Nat) (a:Ex) (M:l[j]?=some a) st vo en H o h3 h4 h5 h6=>ih.V i z ow a st vo en H x wv false 0 o (a6.all _ (aZ M)) (fun u A=>Y u ((gC (aZ M)).1 u A)) (fun u A=>Y u ((gC (aZ M)).2 u A)) h3 h4 A h5 h6;have c8:p.av= .agg [.isl 1 (p.vars.map bQ), .isl 2 (p.arrs.map Ar.row), .isl 5 (p.funs.map Fu.row)]:=rfl;obtain⟨HX,c7⟩: ∃X,X=H:=⟨_,rfl⟩;subst a7;simp only[show ¬(7:Int)=1 by decide,show ¬(7:Int)=2 by decide,show ¬(7:Int)=3 by decide,show ¬(7:Int)=4 by decide,show ¬(7:Int)=5 by decide,show ¬(7:Int)=6 by decide,dK,cT]at h
 cases hl0:l[0]? with
 |none=>
  rw[hl0]at h;cases h
  have b9:l.length=0:=by
   cases l with
   |nil=>rfl
   |cons a l=>simp at hl0
  have c0:l=[]:=nB b9;subst c0;refine bX 251 [] func104 ?_;refine aA fun K b=>?_;simp only[RR,seval];refine aM fun R d=>?_;have a1:=cY d I;have a9:=a1.symm;have a2:=cY d c;have a3:=a2.symm;simp only[RR,seval];refine b _ _ (aA fun K b=>?_);simp only[RR,seval];refine b _ _ (aP (aA fun K b=>?_));simp only[RR,seval];refine b _ _ (bL (aA fun K b=>?_));simp only[RR,seval];refine b _ _ (bL (aA fun K b=>?_));simp only[RR,seval];refine b _ _ (bL (aA fun K b=>?_));simp only[RR,seval];refine b _ _ (bL (aA fun K b=>?_));simp only[RR,seval];refine b _ _ (bL (aA fun K b=>?_));simp only[RR,seval];refine b _ _ (bL (aA fun K b=>?_));simp only[RR,seval];refine b _ _ (cR (aA fun K b=>?_));simp only[RR,seval];refine b _ _ (aI (aA fun K b=>?_));simp only[RR,seval];refine b _ _ (bL ?_);refine aK ?_;simp only[RR];refine aG ?_;simp only[c,a3,RR,seval];simp only[aW,aJ,bN,seval];have nb:x≠R:=fun e=>by rw[e,d]at c;cases c
  have C:=Z.new d (some (.rows 5 [[.int .i64 7, .str s, .isl 5 ([].map Ex.row), .isl 5 (t.map Sm.row), .isl 5 (u.map Sm.row)]]));have D:=hW.new d (some (.rows 5 [[.int .i64 7, .str s, .isl 5 ([].map Ex.row), .isl 5 (t.map Sm.row), .isl 5 (u.map Sm.row)]]));have a0:=(cI H (some (.rows 5 [[.int .i64 7, .str s, .isl 5 ([].map Ex.row), .isl 5 (t.map Sm.row), .isl 5 (u.map Sm.row)]])) nb).trans c;obtain⟨N,O,P,Q⟩:=C.apart a0 (by decide) (by decide);have E:=fun f g=>(C.other N O P Q f).other N O P Q g;have F:=fun f g=>(D.off (D.h.offsz a0 (by decide)) f).off (D.h.offsz a0 (by decide)) g;have G:=fun f g=>((((eC.refl r vv abs vo H).updN d (some (.rows 5 [[.int .i64 7, .str s, .isl 5 ([].map Ex.row), .isl 5 (t.map Sm.row), .isl 5 (u.map Sm.row)]]))).w x wv).frame f).frame g;exact aY.run ⟨ow,true,0,vo,rfl,rfl,A,by simp [dX],(fun _=>rfl),(fun _ _ e=>by cases e;exact⟨rfl,rfl,rfl⟩),(fun _ _ e=>by cases e),bE _ _ _,F _ _,E _ _,G _ _⟩
 |some a=>
  simp only[hl0]at h;have b6:=qG hl0
  obtain⟨v,J⟩: ∃v,kT cx n z ow a st=some v:=by
   cases J:kT cx n z ow a st with
   |none=>rw[J]at h;cases h
   |some v=>exact⟨v,rfl⟩
  rw[J]at h;have a4:=fun H' T U W=>hV 0 a hl0 st vo 0 H' v T U W (.inl ⟨rfl,J⟩);rw[a.row_eq]at a4;have zl:(0:Int)<(l.length:Int):=by have:=(bF.1 hl0).1;omega
  refine bX 251 [] func104 ?_;refine aA fun K b=>?_;simp only[RR,seval];refine aM fun R d=>?_;have a1:=cY d I;have a9:=a1.symm;have a2:=cY d c;have a3:=a2.symm;simp only[RR,seval];refine b _ _ (aA fun K b=>?_);simp only[RR,seval];refine b _ _ (aP (aA fun K b=>?_));simp only[RR,seval];refine b _ _ (bL (aA fun K b=>?_));simp only[RR,seval];refine b _ _ (bL (aA fun K b=>?_));simp only[RR,seval];refine b _ _ (bL (aA fun K b=>?_));simp only[RR,seval];refine b _ _ (bL (aA fun K b=>?_));simp only[RR,seval];refine b _ _ (bL (aA fun K b=>?_));simp only[RR,seval];refine b _ _ (bL (aA fun K b=>?_));simp only[RR,seval];refine b _ _ (cR (aA fun K b=>?_));simp only[RR,seval];refine b _ _ (aI (aA fun K b=>?_));simp only[zl,aE,RR,seval];refine b _ _ (cR (bM fun F1 M1 L B=>?_));have f0:=L 0;have S:=L 1;have f5:=L 5;have b0:=L 15;have gr:=B r;have gx:=B x;have a5:=B R;simp only[I,c,a9,a3,RR,seval]at f0 S f5 b0 gr gx a5;have hM:=funext B;have C:=(Z.new d _).same B;have D:=(hW.new d _).same B;have b7:eC r vv abs vo vo H M1:=by rw[hM];exact(eC.refl _ _ _ _ _).updN d _
  have I:=gr;have c:=gx;refine aG ?_;simp only[f0,S,f5,a5,b6,RR,seval];refine mO (a4 _ C D c) (fun _=>trivial) fun w1 c6 H1 c5 c3 c1 E G=>?_;have c:=C.keep c (by decide) (by decide) G;have F:=D.keep C G;have b8:=(b7.trans G).w x wv
  have b4:(∀q s,o= .val q s→ow=q.2∧true=q.1.isSome∧w1=q.1.getD 0)∧(∀e s,o= .fin e s→e≠0)∧o.st=v.st∧mY o=mY v:=by
   cases v with
   |fin e s=>
    obtain rfl:=Option.some.inj (show some (Rz.fin e s)=some o from h);exact⟨(fun _ _ e=>by cases e),(fun _ _ h=>by cases h;exact c1 _ _ rfl),rfl,rfl⟩
   |val y s=>
    obtain rfl:=c3 _ _ rfl;obtain rfl:=Option.some.inj (show some (Rz.val (some w1,ow) s)=some o from h);exact⟨(fun _ _ e=>by cases e;exact⟨rfl,rfl,rfl⟩),(fun _ _ e=>by cases e),rfl,rfl⟩
  obtain⟨N,O,P,Q⟩:=b4;rw[←P,←Q]at E;obtain⟨p1,p2,p3,p4⟩:=E.apart c (by decide) (by decide);simp only[RR,seval];refine aG ?_;simp only[S,c,RR,seval];simp only[aW,aJ,bN,seval];have T:=fun f g=>(E.other p1 p2 p3 p4 f).other p1 p2 p3 p4 g;have U:=fun f g=>(F.off (F.h.offsz c (by decide)) f).off (F.h.offsz c (by decide)) g;have W:=fun f g=>(b8.frame f).frame g;exact aY.run ⟨ow,true,w1,c6,rfl,rfl,A,c5,(fun h=>by cases h),N,O,bE _ _ _,U _ _,T _ _,W _ _⟩
end
section
variable {p : Pg} {cx : Cx} {r : Nat} {vv : AV} {abs : List Nat} {n : Nat}
theorem Yh (ih:Bn p cx r vv abs n) (hj:DC p cx) (i:Nat) (F:dC→Bool×Int) (ow:List Int) (e:Sm) (c1:e.kind=2) (st:RS) (vo:AV) (H:Hp) (x:Nat) (wv:AV) (o:Rz (Option Int×List Int)) (he:e.ok) (hU: ∀u∈lM e,UJ p i F u) (a6: ∀u∈fY e.es,UJ p i F u) (d0: ∀u∈eK e.thn,UJ p i F u) (d1: ∀u∈eK e.els,UJ p i F u) (hR:fS p cx r vv abs st vo 0 H) (hW:iH vv abs vo wv ow H) (D: ∀y∈ow,dX y) (g:H x=some (.rows 4 [[.int .i64 i,wv, .bool false, .int .u32 0]])) (h:pN cx (n+1) F ow e st=some o):
  oN dV 104 [.ptr 11 r 0 0, .ptr 4 x 0 0, .agg e.row] H (tB p cx r vv abs vo x i wv ow.length H o):=by
 obtain⟨k,s,l,t,u⟩:=e;have A:=hR.r;have b9:=he.es;have e4:=he.thn;have d4:=he.els;simp only[Sm.es,Sm.thn,Sm.els,Sm.kind]at b9 e4 d4 a6 d0 d1 c1;have c3:(Sm.mk k s l t u).row=[.int .i64 k, .str s, .isl 5 (l.map Ex.row), .isl 5 (t.map Sm.row), .isl 5 (u.map Sm.row)]:=Sm.row_eq _;rw[c3];clear c3;have c7:x≠r:=fun e=>by rw[e,A]at g;cases g
 have g5:=c7.symm;simp only[pN]at h;have hV:=fun(j:Nat) (a:Ex) (hj:l[j]?=some a) st vo en H o c M h5 h6=>ih.V i F ow a st vo en H x wv false 0 o (b9.all _ (aZ hj)) (fun u D=>a6 u ((gC (aZ hj)).1 u D)) (fun u D=>a6 u ((gC (aZ hj)).2 u D)) c M D h5 h6;have e0:p.av= .agg [.isl 1 (p.vars.map bQ), .isl 2 (p.arrs.map Ar.row), .isl 5 (p.funs.map Fu.row)]:=rfl;obtain⟨HX,f7⟩: ∃X,X=H:=⟨_,rfl⟩;subst c1;simp only[show ¬(2:Int)=1 by decide,dK,cT]at h;have c4:=hU ⟨s,3,0⟩ (by simp [lM,Sm.kind,Sm.name]);have S:=c4.f;rw[e0]at S;simp only at S;have hk:=c4.k3;generalize eT p i s=fi at S hk;obtain⟨kk,ii⟩:=fi;simp only at S hk;obtain⟨rfl,e3⟩:=hk;rw[e3]at h
 cases hl0:l[0]? with
 |none=>rw[hl0]at h;cases h
 |some a=>
 cases hl1:l[1]? with
 |none=>rw[hl0,hl1]at h;cases h
 |some b=>
  simp only[hl0,hl1]at h;have d5:=qG hl0;have d6:=qG hl1
  obtain⟨Q,Z⟩: ∃Q,kT cx n F ow a st=some Q:=by
   cases Z:kT cx n F ow a st with
   |none=>rw[Z]at h;cases h
   |some Q=>exact⟨Q,rfl⟩
  rw[Z]at h;have b1:=fun H' g1 g2 g3=>hV 0 a hl0 st vo 0 H' Q g1 g2 g3 (.inl ⟨rfl,Z⟩);rw[a.row_eq]at b1;have b2:=fun vo' c9 f4 H' r2 g1 g2 g3 g4=>hV 1 b hl1 f4 vo' c9 H' r2 g1 g2 g3 g4;rw[b.row_eq]at b2;refine bX 251 [] func104 ?_;refine aA fun K d=>?_;simp only[RR,seval];refine aM fun b5 W=>?_;have e7:=cY W A;have c5:=e7.symm;have e8:=cY W g;have c6:=e8.symm;simp only[RR,seval];refine d _ _ (aA fun K d=>?_);simp only[RR,seval];refine d _ _ (aP (aA fun K d=>?_));simp only[RR,seval];refine d _ _ (bL (aA fun K d=>?_));simp only[RR,seval];refine d _ _ (cR (aC fun K d=>?_));refine bB (fun x=>x≠r∧x≠x∧x≠b5) [(0,3),(1,3),(2,3),(3,1),(4,3),(5,3),(6,3),(7,1),(8,3),(9,1),(10,1),(11,3),(12,3),(13,3),(14,3),(15,3)] [] eF (by kernel_rfl) rfl rfl ?_;simp only[dR,A,g,c5,c6,RR,seval];refine aO (S) ?_;simp only[RR,seval];refine d _ _ (bM fun F1 M1 a2 N=>?_);have G:=a2 0;have f1:=a2 1;have f5:=a2 5;have a5:=a2 10;have gr:=N r;have gx:=N x;have I:=N b5;simp only[A,g,c5,c6,RR,seval]at G f1 f5 a5 gr gx I;have hM:=funext N;have a0:=(hR.new W _).same N;have b3:=(hW.new W _).same N;have d8:eC r vv abs vo vo H M1:=by rw[hM];exact(eC.refl _ _ _ _ _).updN W _
  have A:=gr;have g:=gx;refine aA fun K d=>?_;simp only[G,f1,f5,I,d5,RR,seval];refine mO (b1 _ a0 b3 g) (fun _=>trivial) fun w1 g7 H1 c8 e5 d9 T a3=>?_;obtain⟨r2,d3,b8⟩:=SA d9 h;have A:=T.r;have g:=a0.keep g (by decide) (by decide) a3;have I:=a0.keep I (by decide) (by decide) a3;have b4:=b3.keep a0 a3;simp only[RR,seval];refine d _ _ (aA fun K d=>?_);simp only[G,f1,f5,I,d6,RR,seval];refine mO (b2 _ _ _ _ _ T b4 g d3) (fun _=>trivial) fun w2 R H2 f6 e6 c2 v a4=>?_;have A:=v.r;have g:=T.keep g (by decide) (by decide) a4;have I:=T.keep I (by decide) (by decide) a4;have U:=b4.keep T a4;have a8:=((d8.trans a3).trans a4).w x wv;simp only[RR,seval];refine d _ _ (aI (aA fun K d=>?_));simp only[G,A,RR,seval];refine d _ _ (aU ?_ ?_)<;>intro b6
  ·obtain⟨Y,J,a9⟩:=sJ (o:=r2) (by simpa using b6)
   have ho:o= .fin Y J:=by
    rcases b8 with⟨x1,g6,_,_,M⟩|⟨e2,B,_,c,M⟩
    ·rw[a9]at M
     exact(Option.some.inj (show some (Rz.fin Y J)=some o from M)).symm
    rw[a9]at c;cases c;exact M
   subst ho;subst a9;refine aN ?_;simp only[aW,aJ,bN,RR,seval];exact aY.run ⟨ow,false,0,R,rfl,rfl,D,by simp [dX],(fun _=>rfl),(fun _ _ e=>by cases e),(fun e s h=>by cases h;exact c2 _ _ rfl),g,U,v,a8⟩
  obtain⟨x2,B,rfl⟩:=sI (o:=r2) c2 (by simpa using b6);obtain rfl:=e6 _ _ rfl
  obtain⟨x1,J,rfl,c⟩: ∃x J,Q= .val x J∧(if 0≤ii then bindR (X1 ii x B) fun j st=>some (Rz.val ((none:Option Int),ow) (Ru ii j w2 st))else none)=some o:=by
   rcases b8 with⟨x1,J,q1,_,q3⟩|⟨e2,s3,_,q3,_⟩
   ·exact⟨x1,J,q1,q3⟩
   cases q3
  obtain rfl:=e5 _ _ rfl;have v:fS p cx r vv abs B R 0 H2:=v;have A:=v.r;by_cases z0:0≤ii
  rotate_left
  ·rw[aL z0]at c;cases c
  rw[bH z0]at c;obtain⟨P,rfl⟩:=gY z0;simp only[cC,X1]at c
  obtain⟨z,C⟩: ∃z,B.arrs[P]?=some z:=by
   cases C:B.arrs[P]? with
   |none=>rw[C]at c;cases c
   |some z=>exact⟨z,rfl⟩
  rw[C]at c;simp only at c;have hl:P<abs.length:=by rw[v.al];exact(bF.1 C).1
  have O:=aF hl;generalize abs[P]=L at O;have c0:=wZ abs B.arrs P L z O C;have a1:=v.a P L z O C;have f8:=(v.ua z (aZ C)).1;obtain⟨E,rfl⟩:=gY c8.1;have f9:=c8.2;have Y:IntKind.wrap .u64 (E:Int)=(E:Int):=by simp [IntKind.wrap,IntKind.signed,IntKind.bits];omega
  have e2:IntKind.wrap .u64 (z.length:Int)=(z.length:Int):=by simp [IntKind.wrap,IntKind.signed,IntKind.bits];omega
  rw[cC]at c;have e9:L≠r:=v.nr a1;have g0:r≠L:=fun e=>e9 e.symm;have f2:L≠x:=fun e=>by rw[e,g]at a1;cases a1
  have f3:x≠L:=fun e=>f2 e.symm;have A:=v.r;refine aK ?_;simp only[RR];refine aI (aA fun K d=>?_);simp only[G,a5,A,c0,Y,e2,RR,seval];refine d _ _ (aU ?_ ?_)<;>intro b7
  ·have hf: ¬E<z.length:=by have:=aB b7;omega
   rw[aL hf]at c;cases c;refine aA fun K d=>?_;simp only[G,A,RR,seval];apply d;have b0:=(cI H2 (some (.rows 11 [[.isl 1 (p.vars.map bQ), .isl 2 (p.arrs.map Ar.row), .isl 5 (p.funs.map Fu.row), .str cx.inp, .int .i64 cx.fuel,vv, .isl 1 (fU abs B.arrs),R, .int .i64 B.read, .int .i64 B.ticks, .int .i64 3]])) c7).trans g;have a7:=U.off (U.h.offsz v.r (by decide)) (some (.rows 11 [[.isl 1 (p.vars.map bQ), .isl 2 (p.arrs.map Ar.row), .isl 5 (p.funs.map Fu.row), .str cx.inp, .int .i64 cx.fuel,vv, .isl 1 (fU abs B.arrs),R, .int .i64 B.read, .int .i64 B.ticks, .int .i64 3]]));refine aN ?_;simp only[aW,aJ,bN,RR,seval];exact aY.run ⟨ow,false,0,R,rfl,rfl,D,by simp [dX],(fun _=>rfl),(fun _ _ e=>by cases e),(fun e s h=>by cases h;decide),b0,a7,fS.turn v 3 rfl rfl rfl v.rd v.tk,a8.trans ((eC.run _).w x wv)⟩
  have hf:E<z.length:=by have:=aD b7;omega
  have zf:(E:Int)<(z.length:Int):=by omega
  rw[bH hf]at c;simp only[bindR,Option.some.injEq]at c;have d7:=sY (aF hf);refine aK ?_;simp only[RR];refine aG ?_;simp only[G,a5,A,a1,c0,d7,zf,RR,seval];simp only[aW,aJ,bN,seval];have b0:=(cI H2 (some (.rows 1 ((z.map gL).set E [.int .u32 w2]))) f3).trans g;have a7:=U.off (U.offa (aZ O)) (some (.rows 1 ((z.map gL).set E [.int .u32 w2])));have d2:=fS.setA v O C E w2 f6;subst c;exact aY.run ⟨ow,false,0,R,rfl,rfl,D,by simp [dX],(fun _=>rfl),(fun _ _ e=>by cases e;exact⟨rfl,rfl,rfl⟩),(fun _ _ e=>by cases e),b0,a7,d2,a8.trans ((eC.arr (aZ O) _).w x wv)⟩
theorem AZ (ih:Bn p cx r vv abs n) (O:DC p cx) (i:Nat) (B:dC→Bool×Int) (ow:List Int) (e:Sm) (a9:e.kind=3) (st:RS) (vo:AV) (H:Hp) (x:Nat) (wv:AV) (o:Rz (Option Int×List Int)) (Y:e.ok) (hU: ∀u∈lM e,UJ p i B u) (U: ∀u∈fY e.es,UJ p i B u) (b3: ∀u∈eK e.thn,UJ p i B u) (b4: ∀u∈eK e.els,UJ p i B u) (hR:fS p cx r vv abs st vo 0 H) (hW:iH vv abs vo wv ow H) (A: ∀y∈ow,dX y) (v:H x=some (.rows 4 [[.int .i64 i,wv, .bool false, .int .u32 0]])) (h:pN cx (n+1) B ow e st=some o):
  oN dV 104 [.ptr 11 r 0 0, .ptr 4 x 0 0, .agg e.row] H (tB p cx r vv abs vo x i wv ow.length H o):=by
 obtain⟨k,s,l,t,u⟩:=e;have f:=hR.r;have a7:=Y.es;have c3:=Y.thn;have b7:=Y.els;simp only[Sm.es,Sm.thn,Sm.els,Sm.kind]at a7 c3 b7 U b3 b4 a9;have R:(Sm.mk k s l t u).row=[.int .i64 k, .str s, .isl 5 (l.map Ex.row), .isl 5 (t.map Sm.row), .isl 5 (u.map Sm.row)]:=Sm.row_eq _;rw[R];clear R;have b2:x≠r:=fun e=>by rw[e,f]at v;cases v
 have d2:=b2.symm;simp only[pN]at h;have hV:=fun(j:Nat) (a:Ex) (O:l[j]?=some a) st vo en H o h3 h4 h5 h6=>ih.V i B ow a st vo en H x wv false 0 o (a7.all _ (aZ O)) (fun u A=>U u ((gC (aZ O)).1 u A)) (fun u A=>U u ((gC (aZ O)).2 u A)) h3 h4 A h5 h6;have d0:p.av= .agg [.isl 1 (p.vars.map bQ), .isl 2 (p.arrs.map Ar.row), .isl 5 (p.funs.map Fu.row)]:=rfl;obtain⟨HX,c9⟩: ∃X,X=H:=⟨_,rfl⟩;subst a9;simp only[show ¬(3:Int)=1 by decide,show ¬(3:Int)=2 by decide,dK,cT]at h
 cases hl0:l[0]? with
 |none=>rw[hl0]at h;cases h
 |some a=>
  simp only[hl0]at h;have b9:=qG hl0
  obtain⟨C,g⟩: ∃C,kT cx n B ow a st=some C:=by
   cases g:kT cx n B ow a st with
   |none=>rw[g]at h;cases h
   |some C=>exact⟨C,rfl⟩
  rw[g]at h;have a4:=fun H' T G g3=>hV 0 a hl0 st vo 0 H' C T G g3 (.inl ⟨rfl,g⟩);rw[a.row_eq]at a4;refine bX 251 [] func104 ?_;refine aA fun K c=>?_;simp only[RR,seval];refine aM fun b5 I=>?_;have c5:=cY I f;have c7:=c5.symm;have c6:=cY I v;have c8:=c6.symm;simp only[RR,seval];refine c _ _ (aA fun K c=>?_);simp only[RR,seval];refine c _ _ (aP (aA fun K c=>?_));simp only[RR,seval];refine c _ _ (bL (aA fun K c=>?_));simp only[RR,seval];refine c _ _ (bL (aA fun K c=>?_));simp only[RR,seval];refine c _ _ (cR (bM fun F1 M1 Z F=>?_));have E:=Z 0;have f1:=Z 1;have f5:=Z 5;have gr:=F r;have gx:=F x;have M:=F b5;simp only[f,v,c7,c8,RR,seval]at E f1 f5 gr gx M;have hM:=funext F;have J:=(hR.new I _).same F;have a5:=(hW.new I _).same F;have c0:eC r vv abs vo vo H M1:=by rw[hM];exact(eC.refl _ _ _ _ _).updN I _
  have f:=gr;have v:=gx;refine aA fun K c=>?_;simp only[E,f1,f5,M,b9,RR,seval];refine mO (a4 _ J a5 v) (fun _=>trivial) fun z S H1 d3 c4 b0 d P=>?_;have f:=d.r;have v:=J.keep v (by decide) (by decide) P;have M:=J.keep M (by decide) (by decide) P;have L:=a5.keep J P;have a0:=(c0.trans P).w x wv;simp only[RR,seval];refine c _ _ (aI (aA fun K c=>?_));simp only[E,f,RR,seval];refine c _ _ (aU ?_ ?_)<;>intro a6
  ·obtain⟨e1,D,rfl⟩:=sJ (o:=C) (by simpa using a6)
   obtain rfl:=Option.some.inj (show some (Rz.fin e1 D)=some o from h);refine aN ?_;simp only[aW,aJ,bN,RR,seval];exact aY.run ⟨ow,false,0,S,rfl,rfl,A,by simp [dX],(fun _=>rfl),(fun _ _ e=>by cases e),(fun e s h=>by cases h;exact b0 _ _ rfl),v,L,d,a0⟩
  obtain⟨x1,D,rfl⟩:=sI (o:=C) b0 (by simpa using a6);obtain rfl:=c4 _ _ rfl;have d:fS p cx r vv abs D S 0 H1:=d;have f:=d.r;have h:bindR (some (Ik z D)) (fun _ st=>some (Rz.val ((none:Option Int),ow) st))=some o:=h;have a1:=d.o;have d1:=d.ub
  have a2: ∃m,D.out.length=m∧(S= .nsl∧m=0∨ ∃b,S= .osl 1 b m):=⟨_,rfl,by
   rcases a1 with⟨g,h2⟩|⟨b,g,h2⟩
   ·exact .inl ⟨g,by simpa using h2⟩
   exact .inr ⟨b,by simpa using g⟩⟩
  obtain⟨m,hm,a2⟩:=a2
  have hc:((UInt8.ofNat (IntKind.wrap .u8 z).toNat).toNat:Int)=IntKind.wrap .u8 z:=by
   have g:IntKind.wrap .u8 z=z % 256:=by simp [IntKind.wrap,IntKind.signed,IntKind.bits]
   rw[g];have:=Int.emod_nonneg z (show(256:Int)≠0 by decide);have:=Int.emod_lt_of_pos z (show(0:Int)<256 by decide);simp only[UInt8.toNat_ofNat'];omega
  have R:[AV.int .u8 (IntKind.wrap .u8 z)]=rE (UInt8.ofNat (IntKind.wrap .u8 z).toNat):=by unfold rE;rw[hc]
  have b1:=v;rcases a2 with⟨rfl,rfl⟩|⟨b,rfl⟩
  all_goals
   refine aK ?_;simp only[RR];refine aI (aA fun K c=>?_);simp only[E,f,RR,seval];refine c _ _ (aU ?_ ?_)<;>intro N
   ·try (cases N;done)
    all_goals
     have zf:65536≤D.out.length:=by have:=aB N;omega
     unfold Ik at h;rw[bH zf]at h;cases h;refine aA fun K c=>?_;simp only[E,f,RR,seval];apply c;have a3:=fun o=>(cI H1 o b2).trans b1;have W:=fun o=>L.off (L.h.offsz d.r (by decide)) o;refine aN ?_;simp only[aW,aJ,bN,RR,seval];exact aY.run ⟨ow,false,0,_,rfl,rfl,A,by simp [dX],(fun _=>rfl),(fun _ _ e=>by cases e),(fun e s h=>by cases h;decide),a3 _,W _,fS.turn d 4 rfl rfl rfl d.rd d.tk,a0.trans ((eC.run _).w x wv)⟩
   try (cases N;done)
   all_goals
    have zf: ¬65536≤D.out.length:=by first|omega|(have:=aD N;omega)
    unfold Ik at h;rw[aL zf]at h;cases h;refine aK ?_;simp only[RR];refine aG ?_;simp only[E,f,RR,seval];refine eG ?_;simp only[RR,seval];refine iW a1 (by simp only[aE,aQ,aV];omega) (fun _ _=>trivial) fun v' H' Q a8 b8=>?_;have b6:=Q.cells;have c2:=Q.one1;have f:=a8 r _ f (a1.offsz f (by decide) _ _);simp only[b6,c2,cA,List.drop,f,RR,seval];rw[R]at Q;obtain⟨T,G⟩:=d.put (by omega) Q a8 b8;have a3:=d.keep b1 (by decide) (by decide) G;have W:=L.keep d G;have c1:=a0.trans (G.w x wv);simp only[aW,aJ,bN];exact aY.run ⟨ow,false,0,v',rfl,rfl,A,by simp [dX],(fun _=>rfl),(fun _ _ e=>by cases e;exact⟨rfl,rfl,rfl⟩),(fun _ _ e=>by cases e),a3,W,T,c1⟩
theorem KB (ih:Bn p cx r vv abs n) (N:DC p cx) (i:Nat) (d:dC→Bool×Int) (ow:List Int) (e:Sm) (b7:e.kind=4) (st:RS) (vo:AV) (H:Hp) (x:Nat) (wv:AV) (o:Rz (Option Int×List Int)) (he:e.ok) (hU: ∀u∈lM e,UJ p i d u) (Z: ∀u∈fY e.es,UJ p i d u) (a7: ∀u∈eK e.thn,UJ p i d u) (a8: ∀u∈eK e.els,UJ p i d u) (hR:fS p cx r vv abs st vo 0 H) (hW:iH vv abs vo wv ow H) (g: ∀y∈ow,dX y) (f:H x=some (.rows 4 [[.int .i64 i,wv, .bool false, .int .u32 0]])) (h:pN cx (n+1) d ow e st=some o):
  oN dV 104 [.ptr 11 r 0 0, .ptr 4 x 0 0, .agg e.row] H (tB p cx r vv abs vo x i wv ow.length H o):=by
 obtain⟨k,s,l,t,u⟩:=e;have E:=hR.r;have b4:=he.es;have c0:=he.thn;have b3:=he.els;simp only[Sm.es,Sm.thn,Sm.els,Sm.kind]at b4 c0 b3 Z a7 a8 b7;have b9:(Sm.mk k s l t u).row=[.int .i64 k, .str s, .isl 5 (l.map Ex.row), .isl 5 (t.map Sm.row), .isl 5 (u.map Sm.row)]:=Sm.row_eq _;rw[b9];clear b9;have c9:x≠r:=fun e=>by rw[e,E]at f;cases f
 have d2:=c9.symm;simp only[pN]at h;have hV:=fun(j:Nat) (a:Ex) (N:l[j]?=some a) st vo en H o h3 h4 h5 h6=>ih.V i d ow a st vo en H x wv false 0 o (b4.all _ (aZ N)) (fun u g=>Z u ((gC (aZ N)).1 u g)) (fun u g=>Z u ((gC (aZ N)).2 u g)) h3 h4 g h5 h6;have d1:p.av= .agg [.isl 1 (p.vars.map bQ), .isl 2 (p.arrs.map Ar.row), .isl 5 (p.funs.map Fu.row)]:=rfl;obtain⟨HX,d0⟩: ∃X,X=H:=⟨_,rfl⟩;subst b7;simp only[show ¬(4:Int)=1 by decide,show ¬(4:Int)=2 by decide,show ¬(4:Int)=3 by decide,dK,cT]at h
 cases hl0:l[0]? with
 |none=>rw[hl0]at h;cases h
 |some a=>
  simp only[hl0]at h;have c3:=qG hl0
  obtain⟨b,J⟩: ∃b,kT cx n d ow a st=some b:=by
   cases J:kT cx n d ow a st with
   |none=>rw[J]at h;cases h
   |some b=>exact⟨b,rfl⟩
  rw[J]at h;have a9:=fun H' A B C=>hV 0 a hl0 st vo 0 H' b A B C (.inl ⟨rfl,J⟩);rw[a.row_eq]at a9;refine bX 251 [] func104 ?_;refine aA fun K c=>?_;simp only[RR,seval];refine aM fun b5 D=>?_;have c5:=cY D E;have c7:=c5.symm;have c6:=cY D f;have c8:=c6.symm;simp only[RR,seval];refine c _ _ (aA fun K c=>?_);simp only[RR,seval];refine c _ _ (aP (aA fun K c=>?_));simp only[RR,seval];refine c _ _ (bL (aA fun K c=>?_));simp only[RR,seval];refine c _ _ (bL (aA fun K c=>?_));simp only[RR,seval];refine c _ _ (bL (aA fun K c=>?_));simp only[RR,seval];refine c _ _ (cR (bM fun F1 M1 a2 v=>?_));have F:=a2 0;have G:=a2 1;have I:=a2 5;have gr:=v r;have gx:=v x;have z:=v b5;simp only[E,f,c7,c8,RR,seval]at F G I gr gx z;have hM:=funext v;have M:=(hR.new D _).same v;have b0:=(hW.new D _).same v;have c4:eC r vv abs vo vo H M1:=by rw[hM];exact(eC.refl _ _ _ _ _).updN D _
  have E:=gr;have f:=gx;refine aA fun K c=>?_;simp only[F,G,I,z,c3,RR,seval];refine mO (a9 _ M b0 f) (fun _=>trivial) fun w1 c2 H1 d3 c1 b8 a0 O=>?_;have E:=a0.r;have f:=M.keep f (by decide) (by decide) O;have z:=M.keep z (by decide) (by decide) O;have b1:=b0.keep M O;have b6:=(c4.trans O).w x wv;simp only[RR,seval];refine c _ _ (aA fun K c=>?_);simp only[RR,seval];refine c _ _ (aU ?_ ?_)<;>intro b2
  ·have a3: ¬w1=0:=by simpa using b2
   have a1:vG (mY b) b.st (nW cx n d ow t b.st) o:=by
    cases b with
    |fin e1 s1=>
     obtain rfl:=Option.some.inj (show some (Rz.fin e1 s1)=some o from h);exact .inr ⟨b8 _ _ rfl,rfl⟩
    |val x1 s1=>
     obtain rfl:=c1 _ _ rfl;simp only[bindR]at h;rw[aL a3]at h;exact .inl ⟨rfl,h⟩
   refine aG ?_;simp only[F,G,I,z,RR,seval];refine La (ih.L i d ow t b.st c2 (mY b) _ x wv false 0 o c0 a7 a0 b1 g f (by simp [dX]) (fun _=>rfl) (fun _=>rfl) a1) (fun _=>trivial) fun a4 P a5 a6 H2 A B C R S T U W Y Q=>?_;simp only[RR,seval];simp only[aW,aJ,bN,seval];exact aY.run ⟨a4,P,a5,a6,rfl,A,B,C,R,S,T,U,W,Y,b6.trans Q⟩
  have a3:w1=0:=by simpa using b2
  have a1:vG (mY b) b.st (nW cx n d ow u b.st) o:=by
   cases b with
   |fin e1 s1=>
    obtain rfl:=Option.some.inj (show some (Rz.fin e1 s1)=some o from h);exact .inr ⟨b8 _ _ rfl,rfl⟩
   |val x1 s1=>
    obtain rfl:=c1 _ _ rfl;simp only[bindR]at h;rw[bH a3]at h;exact .inl ⟨rfl,h⟩
  refine aG ?_;simp only[F,G,I,z,RR,seval];refine La (ih.L i d ow u b.st c2 (mY b) _ x wv false 0 o b3 a8 a0 b1 g f (by simp [dX]) (fun _=>rfl) (fun _=>rfl) a1) (fun _=>trivial) fun a4 P a5 a6 H2 A B C R S T U W Y Q=>?_;simp only[RR,seval];simp only[aW,aJ,bN,seval];exact aY.run ⟨a4,P,a5,a6,rfl,A,B,C,R,S,T,U,W,Y,b6.trans Q⟩
end
section
variable {p : Pg} {cx : Cx} {r : Nat} {vv : AV} {abs : List Nat} {n : Nat}
theorem WX {a:Rz Int} {o:Rz (Option Int×List Int)} {w1:Int} {f:List Int} {c:Bool} {g:Int} {K:Int→RS→Option (Rz (Option Int×List Int))} {x i:Nat} {wv b:AV} {H j:Hp} {vo:AV} (C: ∀v s,a= .val v s→w1=v) (A: ∀e s,a= .fin e s→e≠0) (d:bindR (some a) (fun x st=>if x=0 then some (Rz.val ((none:Option Int),f) st)else K x st)=some o) (z:c=false) (B:g=0) (D:w1=0)
  (u:H x=some (.rows 4 [[.int .i64 i,wv, .bool c, .int .u32 g]])) (l:iH vv abs b wv f H) (k:fS p cx r vv abs a.st b (mY a) H) (t:kR r vv abs vo b x wv j H):
  (∀q s,o= .val q s→f=q.2∧c=q.1.isSome∧g=q.1.getD 0)∧(∀e s,o= .fin e s→e≠0)∧H x=some (.rows 4 [[.int .i64 i,wv, .bool c, .int .u32 g]])∧iH vv abs b wv f H∧fS p cx r vv abs o.st b (mY o) H∧kR r vv abs vo b x wv j H:=by
 cases a with
 |fin e s=>
  obtain rfl:=Option.some.inj (show some (Rz.fin e s)=some o from d);exact⟨(fun _ _ e=>by cases e),(fun _ _ h=>by cases h;exact A _ _ rfl),u,l,k,t⟩
 |val y s=>
  obtain rfl:=C _ _ rfl;simp only[bindR]at d;rw[bH D]at d;cases d;exact⟨(fun _ _ e=>by cases e;exact⟨rfl,z,B⟩),(fun _ _ e=>by cases e),u,l,k,t⟩
theorem Yg (ih:Bn p cx r vv abs n) (hj:DC p cx) (i:Nat) (f:dC→Bool×Int) (N:List Int) (e:Sm) (e8:e.kind=5) (st:RS) (vo:AV) (H:Hp) (x:Nat) (wv:AV) (o:Rz (Option Int×List Int)) (he:e.ok) (hU: ∀u∈lM e,UJ p i f u) (a5: ∀u∈fY e.es,UJ p i f u) (e0: ∀u∈eK e.thn,UJ p i f u) (h0: ∀u∈eK e.els,UJ p i f u) (hR:fS p cx r vv abs st vo 0 H) (hW:iH vv abs vo wv N H) (J: ∀y∈N,dX y) (A:H x=some (.rows 4 [[.int .i64 i,wv, .bool false, .int .u32 0]])) (h:pN cx (n+1) f N e st=some o):
  oN dV 104 [.ptr 11 r 0 0, .ptr 4 x 0 0, .agg e.row] H (tB p cx r vv abs vo x i wv N.length H o):=by
 obtain⟨k,s,l,t,u⟩:=e;have Q:=hR.r;have c9:=he.es;have f3:=he.thn;have i6:=he.els;simp only[Sm.es,Sm.thn,Sm.els,Sm.kind]at c9 f3 i6 a5 e0 h0 e8;have f2:(Sm.mk k s l t u).row=[.int .i64 k, .str s, .isl 5 (l.map Ex.row), .isl 5 (t.map Sm.row), .isl 5 (u.map Sm.row)]:=Sm.row_eq _;rw[f2];clear f2;have j5:x≠r:=fun e=>by rw[e,Q]at A;cases A
 have k2:=j5.symm;simp only[pN]at h;have hV:=fun(j:Nat) (a:Ex) (hj:l[j]?=some a) st vo en H o O h4 h5 h6=>ih.V i f N a st vo en H x wv false 0 o (c9.all _ (aZ hj)) (fun u J=>a5 u ((gC (aZ hj)).1 u J)) (fun u J=>a5 u ((gC (aZ hj)).2 u J)) O h4 J h5 h6;have k0:p.av= .agg [.isl 1 (p.vars.map bQ), .isl 2 (p.arrs.map Ar.row), .isl 5 (p.funs.map Fu.row)]:=rfl;obtain⟨HX,c3⟩: ∃X,X=H:=⟨_,rfl⟩;subst e8;simp only[show ¬(5:Int)=1 by decide,show ¬(5:Int)=2 by decide,show ¬(5:Int)=3 by decide,show ¬(5:Int)=4 by decide,dK,cT]at h
 cases hl0:l[0]? with
 |none=>rw[hl0]at h;cases h
 |some c=>
  simp only[hl0]at h;have j9:=qG hl0
  obtain⟨n',rfl⟩: ∃n',n=n'+1:=by
   cases n with
   |zero=>simp [zL]at h
   |succ n'=>exact⟨n',rfl⟩
  rw[Yy]at h;have c7:=aZ hl0;have e2:=fun(N:List Int) (J: ∀y∈N,dX y) st vo en H o bk vl O h4 h5 h6=>ih.V i f N c st vo en H x wv bk vl o (c9.all _ c7) (fun u J=>a5 u ((gC c7).1 u J)) (fun u J=>a5 u ((gC c7).2 u J)) O h4 J h5 h6;rw[c.row_eq]at e2;obtain⟨w,hw⟩: ∃w,w=N.length:=⟨_,rfl⟩;rw[←hw];refine bX 251 [] func104 ?_;refine aA fun K g=>?_;simp only[RR,seval];refine aM fun b5 b0=>?_;have j2:=cY b0 Q;have j3:=j2.symm;have f7:=cY b0 A;have j4:=f7.symm;simp only[RR,seval];refine g _ _ (aA fun K g=>?_);simp only[RR,seval];refine g _ _ (aP (aA fun K g=>?_));simp only[RR,seval];refine g _ _ (bL (aA fun K g=>?_));simp only[RR,seval];refine g _ _ (bL (aA fun K g=>?_));simp only[RR,seval];refine g _ _ (bL (aA fun K g=>?_));simp only[RR,seval];refine g _ _ (bL (aA fun K g=>?_));simp only[RR,seval];refine g _ _ (cR (bM fun F1 M1 a2 P=>?_));have f0:=a2 0;have f1:=a2 1;have f5:=a2 5;have gr:=P r;have gx:=P x;have F:=P b5;simp only[Q,A,j3,j4,RR,seval]at f0 f1 f5 gr gx F;have hM:=funext P;have b6:=(hR.new b0 _).same P;have h8:=(hW.new b0 _).same P;have i8:eC r vv abs vo vo H M1:=by rw[hM];exact(eC.refl _ _ _ _ _).updN b0 _
  have Q:=gr;have A:=gx;have hT:=Dl hj.cx b6;generalize j6:nE cx st=R at h hT;refine aA fun K g=>?_;simp only[f0,RR,seval];refine Dw hT (fun _=>trivial) fun H1 b9 a1 W=>?_;have Q:=a1.r;have A:=b6.keep A (by decide) (by decide) W;have F:=b6.keep F (by decide) (by decide) W;have a7:=h8.keep b6 W;have i9:=(i8.trans W).w x wv
  have e3:(mY R=0∧false=false∧Ig cx n' f c t N R.st=some o)∨(mY R=0∧false=true∧o= .val (some 0,N) R.st)∨(mY R≠0∧o= .fin (mY R) R.st):=by
   cases R with
   |fin e s=>exact .inr (.inr ⟨b9 _ _ rfl,(Option.some.inj (show some (Rz.fin e s)=some o from h)).symm⟩)
   |val q s=>exact .inl ⟨rfl,rfl,h⟩
  simp only[RR,seval];refine g _ _ (bM fun F2 M2 a2 P=>?_);have g0:=a2 0;have g1:=a2 1;have g5:=a2 5;have gr:=P r;have gx:=P x;have d8:=P b5;simp only[f0,f1,f5,Q,A,F,RR,seval]at g0 g1 g5 gr gx d8;have c4:=funext P;have f0:=g0;have f1:=g1;have f5:=g5;have Q:=gr;have A:=gx;have F:=d8;refine aP (iV [0,1,5] (n') (fun d fr M=> ∃Z a3 I C G T,d≤n'∧C.length=w∧(∀y∈C,dX y)∧dX T∧(G=false→T=0)∧fS p cx r vv abs Z a3 I M∧iH vv abs a3 wv C M∧M x=some (.rows 4 [[.int .i64 i,wv, .bool G, .int .u32 T]])∧M b5=some (.rows 5 [[.int .i64 5, .str s, .isl 5 (l.map Ex.row), .isl 5 (t.map Sm.row), .isl 5 (u.map Sm.row)]])∧kR r vv abs vo a3 x wv HX M∧((I=0∧G=false∧Ig cx d f c t C Z=some o)∨(I=0∧G=true∧o= .val (some T,C) Z)∨(I≠0∧o= .fin I Z))) ⟨R.st,vo,mY R,N,false,0,bI _,hw.symm,J,(by simp [dX]),(fun _=>rfl),(by rw[c4];exact a1),(by rw[c4];exact a7),A,F,(by rw[c4,c3];exact i9),e3⟩ ?_);rintro d F3 M3 ⟨Z,a3,I,C,G,T,e7,c0,b1,c1,a8,a0,b4,A,F,b8,e5⟩ b3 K1 d9;have f0:=(b3 0 rfl).trans f0;have f1:=(b3 1 rfl).trans f1;have f5:=(b3 5 rfl).trans f5;have d6:=aX.refl [0,1,5] F3;clear b3;have Q:=a0.r;clear h e3
  have hA:I=0∧G=false→ ∃B,kT cx d f C c Z=some B∧bindR (some B) (fun x st=>if x=0 then some (Rz.val ((none:Option Int),C) st)else bindR (nW cx d f C t st) fun r st=>match r.1 with |some v=>some (.val (some v,r.2) st)|none=>zL cx d f r.2 c t st)=some o:=fun⟨E,D⟩=>by
   rcases e5 with⟨_,_,h⟩|⟨_,h,_⟩|⟨h,_⟩
   ·unfold Ig at h
    cases h1:kT cx d f C c Z with
    |none=>rw[h1]at h;cases h
    |some B=>rw[h1]at h;exact⟨B,rfl,h⟩
   ·rw[D]at h;cases h
   exact absurd E h
  have h7:=fun B (h1:kT cx d f C c Z=some B) (hen:I=0)=>e2 C b1 Z a3 I _ B G T a0 b4 A (.inl ⟨hen,Yz (Nat.le_succ_of_le e7) h1⟩);have hen:I=0∨ ¬I=0:=by by_cases h:I=0;exact .inl h;exact .inr h
  rcases hen with hen|hen<;>rcases Bool.eq_false_or_eq_true G with hbk|hbk
  all_goals
   refine aI (aA fun K g=>?_);simp only[*,RR,seval]
   all_goals try (obtain⟨B,h1,h2⟩:=hA ⟨hen,hbk⟩;refine mO (h7 B h1 hen) (fun _=>trivial) fun w1 f8 H1 k5 f4 b9 a1 W=>?_;have Q:=a1.r;have f6:=a0.keep A (by decide) (by decide) W;have A:=f6;have h9:=a0.keep F (by decide) (by decide) W;have F:=h9;have a7:=b4.keep a0 W;have d0:=b8.trans (W.w x wv);simp only[RR,seval])
   all_goals
    refine g _ _ (aU ?_ ?_)<;>intro hc
    ·try (cases hc;done)
     all_goals
      have d3:=hc;clear hc;have j1: ¬w1=0:=by simpa using d3
      obtain⟨b,i1,i3⟩: ∃b,vG (mY B) B.st (nW cx d f C t B.st) b∧((∃x s1,B= .val x s1∧bindR (some b) (fun r st=>match r.1 with |some v=>some (Rz.val (some v,r.2) st)|none=>zL cx d f r.2 c t st)=some o)∨(∃e s,B= .fin e s∧b= .fin e s∧o= .fin e s)):=by
       cases B with
       |fin e s=>exact⟨.fin e s, .inr ⟨b9 e s rfl,rfl⟩, .inr ⟨e,s,rfl,rfl,(Option.some.inj (show some (Rz.fin e s)=some o from h2)).symm⟩⟩
       |val y s=>
        obtain rfl:=f4 _ _ rfl;simp only[bindR]at h2;rw[aL j1]at h2
        cases O:nW cx d f C t s with
        |none=>rw[O]at h2;cases h2
        |some b=>rw[O]at h2;exact⟨b, .inl ⟨rfl,O⟩, .inl ⟨_,s,rfl,h2⟩⟩
      have j8:1≤d:=by
       cases d with
       |zero=>simp [kT]at h1
       |succ d=>omega
      have i2:vG (mY B) B.st (nW cx (n'+1) f C t B.st) b:=by
       rcases i1 with⟨E,D⟩|z
       ·exact .inl ⟨E,LA (Nat.le_succ_of_le e7) D⟩
       exact .inr z
      have hL:=ih.L i f C t B.st f8 (mY B) _ x wv G T b f3 e0 a1 a7 b1 A c1 a8 (fun _=>hbk) i2;rw[c0]at hL;refine aK ?_;simp only[RR];refine aP (aA fun K g=>?_);simp only[*,RR,seval];refine La hL (fun _=>trivial) fun Y U b2 f9 H2 g1 g2 g3 g4 g5 g6 g7 g8 g9 d7=>?_;have Q:=g9.r;have i0:H2 b5=_:=a1.keepW a7 F (by decide) (by decide) f7 d7;have A:=g7;have F:=i0;have e9:=d0.trans d7
      have e6:(mY b=0∧U=false∧zL cx d f Y c t b.st=some o)∨(mY b=0∧U=true∧o= .val (some b2,Y) b.st)∨(mY b≠0∧o= .fin (mY b) b.st):=by
       rcases i3 with⟨y,s1,rfl,O⟩|⟨e,s,rfl,rfl,h4⟩
       ·cases b with
        |fin e s=>exact .inr (.inr ⟨g6 _ _ rfl,(Option.some.inj (show some (Rz.fin e s)=some o from O)).symm⟩)
        |val q s=>
         obtain⟨q1,q2⟩:=q;obtain⟨E,D,z3⟩:=g5 _ _ rfl;simp only at E D z3;subst E
         cases q1 with
         |none=>exact .inl ⟨rfl,D,O⟩
         |some v=>
          simp only[jI]at z3;subst z3;exact .inr (.inl ⟨rfl,D,(Option.some.inj O).symm⟩)
       exact .inr (.inr ⟨g6 _ _ rfl,h4⟩)
      simp only[RR,seval];apply g;have hen2:mY b=0∨ ¬mY b=0:=by by_cases h:mY b=0;exact .inl h;exact .inr h
      rcases hen2 with hen2|hen2<;>rcases Bool.eq_false_or_eq_true U with hbk2|hbk2
      all_goals
       refine aA fun K g=>?_;simp only[*,RR,seval]
       repeat' ((refine bZ (fun h=>?_) (fun h=>?_))<;>simp only[*,RR,seval])
       all_goals
        refine g _ _ (aU ?_ ?_)<;>intro e4
        ·try (cases e4;done)
         all_goals
          have hE:zL cx d f Y c t b.st=some o:=by
           rcases e6 with⟨_,_,h⟩|⟨_,h,_⟩|⟨h,_⟩
           ·exact h
           ·rw[hbk2]at h;cases h
           exact absurd hen2 h
          obtain⟨d',i4⟩: ∃d',d=d'+1:=⟨d- 1,by omega⟩;have i5:d- 1=d':=by omega
          rw[i4,Yy]at hE;have a4:=g9;rw[hen2]at a4;have e1:=Dl hj.cx a4;generalize j7:nE cx b.st=S at hE e1;refine aG ?_;simp only[f0,RR,seval];refine Dw e1 (fun _=>trivial) fun H3 j0 a6 b7=>?_;have d4:=a4.keep A (by decide) (by decide) b7;have c6:=a4.keep F (by decide) (by decide) b7;have c5:=g8.keep a4 b7;have d1:=e9.trans (b7.w x wv)
          have a9:(mY S=0∧U=false∧Ig cx (d- 1) f c t Y S.st=some o)∨(mY S=0∧U=true∧o= .val (some b2,Y) S.st)∨(mY S≠0∧o= .fin (mY S) S.st):=by
           rw[i5]
           cases S with
           |fin e s=>exact .inr (.inr ⟨j0 _ _ rfl,(Option.some.inj (show some (Rz.fin e s)=some o from hE)).symm⟩)
           |val q s=>exact .inl ⟨rfl,hbk2,hE⟩
          obtain⟨d5,d2⟩: ∃s,s=S.st:=⟨_,rfl⟩;obtain⟨c2,c8⟩: ∃e,e=mY S:=⟨_,rfl⟩;rw[←d2,←c8]at a6 a9;simp only[RR,seval];refine d9 (d- 1) _ _ (by omega) ⟨d5,f9,c2,Y,U,b2,(by omega),g1,g2,g3,g4,a6,c5,d4,c6,d1,a9⟩ (by repeat (first|exact d6|refine aX.upd rfl ?_))
        try (cases e4;done)
        all_goals
         have d4:=A;have c6:=F;have c5:=g8;have a6:=g9;have d1:=e9
         have a9:(mY b=0∧U=false∧Ig cx (d- 1) f c t Y b.st=some o)∨(mY b=0∧U=true∧o= .val (some b2,Y) b.st)∨(mY b≠0∧o= .fin (mY b) b.st):=by
          rcases e6 with⟨E,D,_⟩|z|z
          ·exfalso
           first|exact hen2 E|(rw[hbk2]at D;cases D)
          ·exact .inr (.inl z)
          exact .inr (.inr z)
         obtain⟨d5,d2⟩: ∃s,s=b.st:=⟨_,rfl⟩;obtain⟨c2,c8⟩: ∃e,e=mY b:=⟨_,rfl⟩;rw[←d2,←c8]at a6 a9;refine aK ?_;simp only[RR];refine d9 (d- 1) _ _ (by omega) ⟨d5,f9,c2,Y,U,b2,(by omega),g1,g2,g3,g4,a6,c5,d4,c6,d1,a9⟩ (by repeat (first|exact d6|refine aX.upd rfl ?_))
    try (cases hc;done)
    all_goals
     have d3:=hc;rw[c3]at b8
     try rw[c3]at d0
     refine cF ?_;simp only[RR,seval];simp only[aW,aJ,bN,seval]
     first
      |(have hz:w1=0:=by simpa using d3
        have i7:=WX f4 b9 h2 hbk (a8 hbk) hz f6 a7 a1 d0
        exact aY.run ⟨C,G,T,f8,rfl,c0,b1,c1,a8,i7⟩)
      |(rcases e5 with⟨E,D,_⟩|⟨E,D,z3⟩|⟨E,D⟩
        ·exfalso
         first|exact hen E|(rw[hbk]at D;cases D)
        ·subst z3;exact aY.run ⟨C,G,T,a3,rfl,c0,b1,c1,a8,(fun _ _ e=>by cases e;exact⟨rfl,D,rfl⟩),(fun _ _ e=>by cases e),A,b4,(by rw[E]at a0;exact a0),b8⟩
        subst D;exact aY.run ⟨C,G,T,a3,rfl,c0,b1,c1,a8,(fun _ _ e=>by cases e),(fun _ _ h=>by cases h;exact E),A,b4,a0,b8⟩)
theorem Yi (A:Bn p cx r vv abs n) (t:DC p cx) (i:Nat) (a:dC→Bool×Int) (b:List Int) (e:Sm) (st:RS) (vo:AV) (H:Hp) (x:Nat) (wv:AV) (o:Rz (Option Int×List Int)) (l:e.ok) (j: ∀u∈lM e,UJ p i a u) (c: ∀u∈fY e.es,UJ p i a u) (d: ∀u∈eK e.thn,UJ p i a u) (f: ∀u∈eK e.els,UJ p i a u) (g:fS p cx r vv abs st vo 0 H) (k:iH vv abs vo wv b H) (v: ∀y∈b,dX y) (z:H x=some (.rows 4 [[.int .i64 i,wv, .bool false, .int .u32 0]])) (h:pN cx (n+1) a b e st=some o):
  oN dV 104 [.ptr 11 r 0 0, .ptr 4 x 0 0, .agg e.row] H (tB p cx r vv abs vo x i wv b.length H o):=by
 by_cases k1:e.kind=1
 ·exact AW A t i a b e k1 st vo H x wv o l j c d f g k v z h
 by_cases B:e.kind=2
 ·exact Yh A t i a b e B st vo H x wv o l j c d f g k v z h
 by_cases k3:e.kind=3
 ·exact AZ A t i a b e k3 st vo H x wv o l j c d f g k v z h
 by_cases k4:e.kind=4
 ·exact KB A t i a b e k4 st vo H x wv o l j c d f g k v z h
 by_cases C:e.kind=5
 ·exact Yg A t i a b e C st vo H x wv o l j c d f g k v z h
 by_cases D:e.kind=6
 ·exact Yk A t i a b e D st vo H x wv o l j c d f g k v z h
 by_cases E:e.kind=7
 ·exact AY A t i a b e E st vo H x wv o l j c d f g k v z h
 exact J4 A t i a b e ⟨k1,B,k3,k4,C,D,E⟩ st vo H x wv o l j c d f g k v z h
theorem WF (B:DC p cx): ∀n:Nat,Bn p cx r vv abs n
 |0=>by
  refine⟨?_, ?_, ?_, ?_⟩
  ·intro i j g e st vo D H x wv k t o z b y a c d f h
   rcases h with⟨_,h⟩|⟨u,v⟩
   ·simp [kT]at h
   exact Ep (n:=0) (fun h=>absurd h u) B.cx i j g e st vo H x wv k t o z b y a c d f (.inr ⟨u,v⟩)
  ·intro i j g s l st vo H x wv k t o A b y a c d f h
   simp [Ug]at h
  ·intro i j g e st vo H x wv o z b u v I a c d f h
   simp [pN]at h
  intro i j g l st vo D H x wv k t o A b a c d f G F E h;rcases h with⟨_,h⟩|⟨u,v⟩
  ·simp [nW]at h
  exact Eo (n:=0) (fun h=>absurd h u) i j g l st vo H x wv k t o A b a c d f G F E (.inr ⟨u,v⟩)
 |n+1=>by
  have C:=WF B n;refine⟨?_, ?_, ?_, ?_⟩
  ·intro i j g e st vo D H x wv k t o z b y a c d f h
   exact Ep (fun _=>C) B.cx i j g e st vo H x wv k t o z b y a c d f h
  ·intro i j g s l st vo H x wv k t o A b y a c d f h
   exact J8 C B i j g s l st vo H x wv k t o A b y a c d f h
  ·intro i j g e st vo H x wv o z b u v I a c d f h
   exact Yi C B i j g e st vo H x wv o z b u v I a c d f h
  intro i j g l st vo D H x wv k t o A b a c d f G F E h;exact Eo (fun _=>C) i j g l st vo H x wv k t o A b a c d f G F E h
end
theorem G3 {p:Pg} (i:p.few) (h:gZ p=0) (j:Nat) (g:Fu) (a:p.funs[j]?=some g) (u:Us) (f:u∈eK g.body):UJ p j (Xg (kQ p) (Vl g)) u:=by
 obtain⟨l,k,e,d⟩:=Ci h;simp only[kH,bC]at e;simp only[qK,bC]at d;have b:=(nY p p.funs 0 e.2 j g a).2;have c:=Xy p p.funs 0 d.1 j g a;rw[bT,dB]at b c;exact⟨Md p i j (bF.1 a).1 u.name,(NH a u.name).1,b u f,c u f⟩
theorem G4 {p:Pg} (h:gZ p=0) (g:Fu) (b:p.funs[p.funs.length- 1]?=some g):g.params.length=0:=by
 obtain⟨_,_,_,a⟩:=Ci h;simp only[qK,bC,vE]at a;have:=a.2;rw[b]at this;simp only[bC,bJ]at this;exact this.1.2
theorem XF {p:Pg} (d:ME p) (inp:dC) (j:inp.length≤2000000) (a:Int) (i:jH a):QB (Um p inp a):=by
 have e:((Um p inp a).fuel:Int)=if a<0 then 0 else a:=by
  show(((if a<0 then 0 else a).toNat:Nat):Int)=_;split<;>omega
 refine⟨j,by have:=i.2;split at e<;>omega,fun f b=>?_,fun f b=>?_⟩
 ·obtain⟨g,c,rfl⟩:=jL.1 b
  have:=d.fs g c;show g.params.length+g.locs.length≤_;omega
 obtain⟨g,c,rfl⟩:=jL.1 b;exact(d.ok.funs g c).body
theorem MI (p:Pg) (Z:ME p) (j6: ∀(j:Nat) g,p.funs[j]?=some g→ ∀u∈eK g.body,UJ p j (Xg (kQ p) (Vl g)) u) (j2: ∀g,p.funs[p.funs.length- 1]?=some g→g.params.length=0) (inp:dC) (i9:inp.length≤2000000) (S:Int) (i6:jH S) {n:Nat} {e:Int} {b2:dC} {t:Nat} (a4:Z2 (Um p inp S) n p.vars.length (p.arrs.map fun a=>a.size.toNat)=some (e,b2,t)):
  eN dV 18 [p.av, .str inp, .int .i64 S] (WA e b2 t):=by
 have c7:((Um p inp S).fuel:Int)=if S<0 then 0 else S:=by
  show(((if S<0 then 0 else S).toNat:Nat):Int)=_;split<;>omega
 have d:=XF Z inp i9 S i6;have hj:DC p (Um p inp S):=⟨rfl,d,j6,Z.f⟩;have f0:p.funs.length- 1<p.funs.length:=by have:=Z.f1;omega
 have b4:=aF f0;have i8:=Z.fs _ (bW f0);have j5:=j2 _ b4;generalize p.funs[p.funs.length- 1]=g at b4 i8 j5
 have f4:(Um p inp S).main=some (Bv (kQ p) g):=by
  show(p.funs.map (Bv (kQ p)))[(p.funs.map (Bv (kQ p))).length- 1]?=_;rw[aE,dT,b4];rfl
 obtain⟨O,c6,X⟩: ∃o,nW (Um p inp S) n (Xg (kQ p) (Vl g)) ([]++List.replicate g.locs.length 0) g.body (RS.init p.vars.length (p.arrs.map fun a=>a.size.toNat))=some o∧Zc o=(e,b2,t):=by
  unfold Z2 at a4;rw[f4]at a4;simp only[cA,bR]at a4;have hw:(Bv (kQ p) g).words=g.locs.length:=by show g.params.length+g.locs.length=_;omega
  rw[hw]at a4;exact a4
 clear a4 f4;have j0:RS.init p.vars.length (p.arrs.map fun a=>a.size.toNat)=⟨List.replicate p.vars.length 0,p.arrs.map zz,0,[],0⟩:=by simp [RS.init,zz,List.map_map]
 rw[j0]at c6;have hB:=fun(r:Nat) (vv:AV) abs H hR=>Do (vv:=vv) (abs:=abs) (WF (r:=r) hj n) hj (p.funs.length- 1) g b4 [] _ .nsl H .nsl O hR iH.nil (fun y hy=>by cases hy) (by simp) (by omega) c6;have g8:=Z.sz;have l8:=Z.v;have l0:=Z.a;have l2:=Z.f;have l1:=Z.f1;have e2:IntKind.wrap .i64 ((p.funs.length:Int)- 1)=((p.funs.length- 1:Nat):Int):=by rw[aS _ (by omega)];omega
 have e3:decide ((p.funs.length:Int)=0)=false:=bA (by omega);have e4:(4:Int) *(p.vars.length:Int)≤281474976710656:=by omega
 obtain⟨vs,J,fs⟩:=p;simp only at *;obtain⟨cx,e8⟩: ∃cx,cx=Um ⟨vs,J,fs⟩ inp S:=⟨_,rfl⟩;have i5:cx.inp=inp:=by rw[e8];rfl
 rw[←e8]at c6 hB c7 d;have i0:Pg.av ⟨vs,J,fs⟩= .agg [.isl 1 (vs.map bQ), .isl 2 (J.map Ar.row), .isl 5 (fs.map Fu.row)]:=rfl;rw[i0];have l3:=d.inp;refine bX 76 [.cell 6 40] func18 ?_;refine aA fun K G=>?_;simp only[RR,seval];refine aM fun L l6=>?_;simp only[RR,seval];refine aM fun F f9=>?_;have k7:F≠L:=fun e=>by rw[e]at f9;simp only[RR,seval,reduceCtorEq]at f9
 have d5:=k7.symm;simp only[RR,seval];refine G _ _ (aI (aA fun K G=>?_));simp only[d5,e3,aE,RR,seval];refine G _ _ (bL ?_);refine aK ?_;simp only[RR];refine aI (aA fun K G=>?_);simp only[RR,seval];refine G _ _ (bM fun F1 M1 I U=>?_);have f1:=I 1;have f2:=I 2;have N:=I 3;have C:=I 6;have d9:=I 15;have A:=U L;have z:=U F;simp only[d5,RR,seval]at f1 f2 N C d9 A z;refine fQ (fun fr M=>aX [1,3,6] F1 fr∧M L=M1 L∧M F=M1 F∧fr 2= .int .i64 (cx.fuel:Int)) (fun k9 e5=>?_) ?_
 ·have d6:=aX.refl [1,3,6] F1
  have d7:M1 L=M1 L:=rfl;have d8:M1 F=M1 F:=rfl;refine dN _ d9 (fun c4=>?_) (fun c4=>?_)
  ·have c8:(cx.fuel:Int)=0:=by rw[c7,bH (aB c4)]
   refine aG ?_;simp only[RR,seval];refine e5 _ _ ⟨(by repeat (first|exact d6|refine aX.upd rfl ?_)),d7,d8,(by rw[c8];rfl)⟩
  have c8:(cx.fuel:Int)=S:=by rw[c7,aL (aD c4)]
  refine aK ?_;simp only[RR];refine e5 _ _ ⟨(by repeat (exact d6)),d7,d8,(by rw[c8];exact f2)⟩
 rintro F2 M2 ⟨Y,V,W,f2⟩;have f1:=(Y 1 rfl).trans f1;have N:=(Y 3 rfl).trans N;have C:=(Y 6 rfl).trans C;have A:=V.trans A;have z:=W.trans z;clear Y;simp only[RR,seval];refine aC fun K G=>?_;refine bB (fun x=>x≠L∧x≠F) [(0,0),(1,3),(2,3),(3,3),(4,1),(5,3),(6,1),(7,3),(8,1),(9,3)] [] eF (by kernel_rfl) rfl rfl ?_;simp only[dR,fX,f1,N,f2,A,d5,e4,aE,RR,seval];refine aM fun Q f5=>?_;have k0:=cY f5 A;have h4:=k0.symm;have k2:=cY f5 z;have h5:=k2.symm;simp only[RR,seval];refine aM fun R a1=>?_;have h3:R≠L:=fun e=>by rw[e]at a1;simp only[A,h4,RR,seval,reduceCtorEq]at a1
 have d4:=h3.symm;have k6:R≠F:=fun e=>by rw[e]at a1;simp only[z,h5,RR,seval,reduceCtorEq]at a1
 have a0:=k6.symm;have k5:R≠Q:=fun e=>by rw[e]at a1;simp only[RR,seval,reduceCtorEq]at a1
 have d3:=k5.symm;simp only[RR,seval];refine G _ _ (aI (aA fun K G=>?_));simp only[RR,seval];refine G _ _ (bM fun F3 M3 I U=>?_);have g3:=I 3;have g6:=I 6;have D:=I 7;have f8:=I 8;have V:=U L;have W:=U F;have T:=U Q;have B:=U R;simp only[N,C,A,z,h4,h5,d4,a0,d3,RR,seval]at g3 g6 D f8 V W T B;have N:=g3;have C:=g6;have A:=V;have z:=W;refine aP (eO [3,6,7] (J.length) (fun k fr M=>fr 8= .int .i64 (k:Nat)∧M L=M3 L∧M F=M3 F∧M Q=M3 Q∧ ∃va bs,M R=some (.rows 11 [[.isl 1 (vs.map bQ), .isl 2 (J.map Ar.row), .isl 5 (fs.map Fu.row), .str inp, .int .i64 cx.fuel, .osl 1 Q vs.length,va, .nsl, .int .i64 0, .int .i64 0, .int .i64 0]])∧Vi L Q bs ((J.take k).map zz) va M) ⟨f8,rfl,rfl,rfl, .nsl,[],B,⟨rfl, .inl ⟨rfl,rfl⟩,(fun i b l h=>by simp at h),List.nodup_nil,(by simp),(by simp),(fun _ _ h=>by cases h),(fun _ _ h=>by cases h),(fun b hb=>by simp at hb)⟩⟩ ?_);rintro k F4 M4 l4 ⟨fx,V,W,a5,va,bs,B,E⟩ Y K0 h8;have N:=(Y 3 rfl).trans N;have C:=(Y 6 rfl).trans C;have D:=(Y 7 rfl).trans D;have f8:=fx;clear fx;have A:=V.trans A;have z:=W.trans z;have T:=a5.trans T;have h6:=aX.refl [3,6,7] F4;have c0:=V;have c1:=W;have b9:=a5;clear Y;refine aI (aA fun K G=>?_);simp only[N,f8,A,aE,RR,seval];refine G _ _ (aU ?_ ?_)<;>intro hc
 ·have b5:k<J.length:=by have:=aB hc;omega
  clear hc;have e9:=aF b5;have g9:J.take (k+1)=J.take k++[J[k]]:=cL b5;have g0:=g8 _ (bW b5);have l5:bs.length≤10000:=by rw[E.l,aE,dU];omega
  generalize J[k]=a at e9 g9 g0;have hg:=N2 e9;have z0:=g0.1;have z1:(4:Int) *a.size≤281474976710656:=by omega
  refine aK ?_;simp only[RR];refine aI (aP ?_);have a3:=E.o;have l7:=E.o7;have j3:=E.ov;refine bB (fun x=>x≠L∧x≠R) [(0,3),(1,3),(2,3),(3,3),(4,0),(5,3),(6,1),(7,3),(8,3),(9,3),(10,1),(11,1),(12,2),(13,1),(14,3),(15,3)] [(16,1)] eF (by kernel_rfl) rfl rfl ?_;simp only[dR,fX,N,D,f8,A,B,h3,hg,z0,z1,RR,seval];refine aM fun b8 a2=>?_;have j9:R≠b8:=fun e=>by rw[e,a2]at B;cases B
  have n3:L≠b8:=fun e=>by rw[e,a2]at A;cases A
  simp only[RR,seval];have j8:List.replicate a.size.toNat [AV.int .u32 0]=(zz a).map gL:=by simp [zz,gL]
  have j7:(zz a).length=a.size.toNat:=by simp [zz]
  rw[j8];refine iW (a3.upd a2 _) (by have:=Ft bs ((J.take k).map zz) E.l;rw[this,aE,dU];simp only[aQ,aV];omega) (fun b e=>⟨fun c=>?_,fun c=>?_⟩) fun v' H' b7 b0 i7=>?_
  ·subst c;exact a3.offsz A (by decide) _ _ e
  ·subst c;exact a3.offsz B (by decide) _ _ e
  have i4:=b7.cells;have j4:=b7.one1;have e6:=b0 R _ (by rw[cI _ _ j9];exact B) (a3.offsz B (by decide) _ _);have i2:=b0 L _ (by rw[cI _ _ n3];exact A) (a3.offsz A (by decide) _ _);have i3:=b0 F _ (by rw[cI _ _ (fun e=>by rw[e,a2]at z;cases z)];exact z) (a3.offsz z (by decide) _ _);have i1:=b0 Q _ (by rw[cI _ _ (fun e=>by rw[e,a2]at T;cases T)];exact T) (j3 _ _);have c0:=(i2.trans A.symm).trans c0;have c1:=(i3.trans z.symm).trans c1;have b9:=(i1.trans T.symm).trans b9;rw[←j7]at b7;have h7:=E.snoc (l:=zz a) a2 (by rw[A];exact bY _) (by rw[T];exact bY _) b7 b0 i7 e6 (.rows 11 [[.isl 1 (vs.map bQ), .isl 2 (J.map Ar.row), .isl 5 (fs.map Fu.row), .str inp, .int .i64 cx.fuel, .osl 1 Q vs.length,v', .nsl, .int .i64 0, .int .i64 0, .int .i64 0]]);simp only[i4,j4,cA,List.drop,e6,RR,seval];refine aG ?_;simp only[f8,RR,seval];rw[aS _ (by omega)];refine h8 _ _ b5 ⟨by rfl,(by(simp only[d4,aT,seval];exact c0)),(by(simp only[a0,aT,seval];exact c1)),(by(simp only[d3,aT,seval];exact b9)),v',bs++[b8],bE _ _ _,(by rw[g9,cO];exact h7)⟩ (by repeat (first|exact h6|refine aX.upd rfl ?_))
 have j1:k=J.length:=by have:=aD hc;omega
 rw[j1,dD]at E;refine cF ?_;simp only[RR,seval];refine bM fun F5 M5 I U=>?_;have g3:=I 3;have g6:=I 6;have g7:=I 7;have V:=U L;have W:=U F;have a5:=U Q;have e1:=U R;simp only[N,C,D,A,z,T,B,RR,seval]at g3 g6 g7 V W a5 e1;have E:=E.keep (H':=M5) (fun b o hb=>by rw[U];exact hb);have N:=g3;have C:=g6;have D:=g7;have A:=V;have z:=W;have T:=a5;have B:=e1;have h0:M5 R=some (.rows 11 [[AV.isl 1 (vs.map bQ), .isl 2 (J.map Ar.row), .isl 5 (fs.map Fu.row), .str inp, .int .i64 cx.fuel, .osl 1 Q vs.length]++va::[.nsl, .int .i64 0, .int .i64 0, .int .i64 0]]):=B;refine iF E.o h0 (fun x d=>?_) (fun x d=>?_) (E.o.offsz B (by decide)) fun FS HS I B b1=>?_
 ·simp only[bP,bO,dF]at d
  rcases d with rfl|rfl|rfl|rfl|rfl|rfl
  ·exact bS rfl
  ·exact bS rfl
  ·exact bS rfl
  ·exact bS rfl
  ·exact bS rfl
  intro s b n' e';cases e';exact E.ov
 ·simp only[bP,bO,dF]at d
  rcases d with rfl|rfl|rfl|rfl<;>exact bS rfl
 have N:FS 3= .ptr 3 L 0 0:=(I 3 (by rw[N];exact bS rfl)).trans N;have C:FS 6= .ptr 3 F 0 0:=(I 6 (by rw[C];exact bS rfl)).trans C;have D:FS 7= .ptr 11 R 0 0:=(I 7 (by rw[D];exact bS rfl)).trans D;have A:=b1 L _ _ d4 (E.o.offsz A (by decide)) (fun r P x d=>by simp only[bD]at P;subst P;simp only[bP,bO,dF]at d;rcases d with rfl|rfl|rfl<;>exact bS rfl) A;have z:=b1 F _ _ a0 (E.o.offsz z (by decide)) (fun r P x d=>by simp only[bD]at P;subst P;simp only[bP,bO,dF]at d;rcases d with rfl|rfl|rfl<;>exact bS rfl) z;have T:=b1 Q _ _ d3 E.ov (fun r P x d=>by rw[(Bq.1 P).2]at d;simp only[bD]at d;subst d;exact bS rfl) T
 have hR:fS ⟨vs,J,fs⟩ cx R (.osl 1 Q vs.length) bs ⟨List.replicate vs.length 0,J.map zz,0,[],0⟩ .nsl 0 HS:=by
  refine⟨by rw[i5];exact B, .inr ⟨Q,by simp,by simpa [gL]using T⟩,E.l,fun i b l h1 h2=>?_,E.nd,(fun b hb s n' h=>by cases h;exact E.nv hb), .inl ⟨rfl,rfl⟩,(fun _ _ _ _ _ _ h=>by cases h),(fun b hb s n' h=>by cases h),fun x d=>?_,fun l hl=>?_,by simp,cJ _,cJ _⟩
  ·have c3:=E.a i b l h1 h2
   exact b1 b _ _ (fun e'=>by rw[e',h0]at c3;cases c3) (E.ob b (aZ h1)) (fun r P x d=>by obtain⟨y,_,rfl⟩:=jL.1 P;simp only[gL,bD]at d;subst d;exact bS rfl) c3
  ·rw[(Bq.1 d).2];simp [dX]
  obtain⟨a,h9,rfl⟩:=jL.1 hl;have:=g8 a h9;refine⟨by simp only[zz,fJ];omega,fun x d=>?_⟩;rw[(Bq.1 d).2];simp [dX]
 have hB:=hB _ _ _ _ hR;clear b1 I h0 T B;refine aA fun K G=>?_;simp only[N,D,A,e2,aE,RR,seval];refine jT hB (fun _=>trivial) fun ae H2 ⟨w,k8,g1,g2,g3,g4,g5,g6⟩=>?_;subst g1;have z:=hR.keepW iH.nil z (by decide) (by decide) a0 g6;have B:=g5.r;simp only[RR,seval];refine G _ _ (aI (aA fun K G=>?_));simp only[D,B,RR,seval];refine G _ _ (aU ?_ ?_)<;>intro e7
 ·have hz:mY O=0:=by simpa using e7
  obtain⟨v0,s0,d2⟩:=sI (o:=O) g4 hz;have a8:e=1∧b2=O.st.out∧t=O.st.ticks:=by rw[d2]at X⊢;simp only[Zc,Prod.mk.injEq]at X;exact⟨X.1.symm,X.2.1.symm,X.2.2.symm⟩
  refine aG ?_;simp only[D,B,RR,seval];have a6:=fS.turn (st':=O.st) g5 1 rfl rfl rfl g5.rd g5.tk;have a7:=(cI H2 (some (.rows 11 [[.isl 1 (vs.map bQ), .isl 2 (J.map Ar.row), .isl 5 (fs.map Fu.row), .str cx.inp, .int .i64 cx.fuel, .osl 1 Q vs.length, .isl 1 (fU bs O.st.arrs),k8, .int .i64 O.st.read, .int .i64 O.st.ticks, .int .i64 1]])) a0).trans z;have c5:(1:Int)=e:=a8.1.symm;obtain⟨_,d0,d1⟩:=a8;refine fS.seal a6 fun FT HT a9 B c9=>?_;have C:FT 6= .ptr 3 F 0 0:=(a9 6 (by simp only[aT,C,seval];rfl)).trans (by simp only[aT,C,seval]);have D:FT 7= .ptr 11 R 0 0:=(a9 7 (by simp only[aT,D,seval];rfl)).trans (by simp only[aT,D,seval]);have z:=c9 F _ _ a0 (a6.o.offsz a7 (by decide)) (fun r P x d=>by simp only[bD]at P;subst P;simp only[bP,bO,dF]at d;rcases d with rfl|rfl|rfl<;>rfl) a7;have c2:=Av O.st.out;refine aC fun K G=>?_;refine bB (fun _=>True) [(0,3),(1,3),(2,3),(3,1),(4,3),(5,3),(6,3),(7,1),(8,3),(9,3),(10,3),(11,3),(12,1),(13,3)] [(14,1)] eF (by kernel_rfl) rfl rfl ?_;simp only[dR,C,D,z,B,c2,RR,seval];apply G;refine aN ?_;simp only[aW,aJ,bN,C,RR,seval];refine aY.pure ?_;rw[d0,d1,←c5];rfl
 obtain⟨e0,s0,d2⟩:=sJ (o:=O) (by simpa using e7);have a8:e=mY O∧b2=O.st.out∧t=O.st.ticks:=by rw[d2]at X⊢;simp only[Zc,Prod.mk.injEq]at X;exact⟨X.1.symm,X.2.1.symm,X.2.2.symm⟩
 have a6:=g5;have a7:=z;have c5:mY O=e:=a8.1.symm;refine aK ?_;simp only[RR];obtain⟨_,d0,d1⟩:=a8;refine fS.seal a6 fun FT HT a9 B c9=>?_;have C:FT 6= .ptr 3 F 0 0:=(a9 6 (by simp only[aT,C,seval];rfl)).trans (by simp only[aT,C,seval]);have D:FT 7= .ptr 11 R 0 0:=(a9 7 (by simp only[aT,D,seval];rfl)).trans (by simp only[aT,D,seval]);have z:=c9 F _ _ a0 (a6.o.offsz a7 (by decide)) (fun r P x d=>by simp only[bD]at P;subst P;simp only[bP,bO,dF]at d;rcases d with rfl|rfl|rfl<;>rfl) a7;have c2:=Av O.st.out;refine aC fun K G=>?_;refine bB (fun _=>True) [(0,3),(1,3),(2,3),(3,1),(4,3),(5,3),(6,3),(7,1),(8,3),(9,3),(10,3),(11,3),(12,1),(13,3)] [(14,1)] eF (by kernel_rfl) rfl rfl ?_;simp only[dR,C,D,z,B,c2,RR,seval];apply G;refine aN ?_;simp only[aW,aJ,bN,C,RR,seval];refine aY.pure ?_;rw[d0,d1,←c5];rfl
theorem Vp {V:UInt8→Prop} {A:Prop} {l:List Sm} (hs: ∀m∈l,SS V A 1 m) (hl:(jX l++[36]).length≤2500):(∀w∈sQ (qD 0 l++[36]),dX w∧sM w)∧(sQ (qD 0 l++[36])).length=4 *((jX l).length+1):=by
 have hl:(jX l).length+1≤2500:=by rw[aH,bV]at hl;exact hl
 have hb:=MN (N:=2500) (l:=l) (q:=0) (d:=0) (fun m hm q hq=>⟨ML (by decide) (hs m hm) q 0 (by decide) hq,jN (hs m hm) q⟩) (by omega);have hw:=XP (N:=2500) (l:=l) (q:=0) (d:=0) (fun m hm q hq=>⟨ZG (by decide) (hs m hm) q 0 (by decide) hq,ML (by decide) (hs m hm) q 0 (by decide) hq,jN (hs m hm) q⟩) (by omega);have hln:=qQ (b:=0) fun x hx=>jN (hs x hx);refine⟨?_, ?_⟩
 ·have :Kw 0 (zl (0:Nat) 0) (qD 0 l++[36]):=by
   refine hw.app ?_;rw[hb];refine mT ?_;rw[(pH (A:=1509949440) (X:=gF 26 0 0 0) (g:=2) (by decide) (by decide) (by decide) (by decide) (by decide) (by decide) (by decide) (by decide)).1];exact lX (by decide) (by decide) (pC (by decide) (by decide) (by decide))
  exact this
 unfold sQ;rw[vV,aH,bV,hln]
end Go.Proofs.YtaecpjgmcffliaaGreatDoor
