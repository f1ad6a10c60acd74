/- Mje -/
import Derived.Test.YtaecpjgmcffliaaGreatDoorMjc
import Derived.Test.YtaecpjgmcffliaaGreatDoorQd
import Derived.Test.YtaecpjgmcffliaaGreatDoorMx
import Derived.Test.YtaecpjgmcffliaaGreatDoorJf
set_option linter.unusedSimpArgs false
set_option linter.unusedVariables false
set_option maxRecDepth 10000
set_option maxHeartbeats 8000000
namespace Go.Al
section
variable {p : Pg} {cx : Cx} {r x : Nat} {vv vo vo' wv : AV} {abs : List Nat} {st : RS} {en : Int} {ow : List Int} {H H' : Hp}
theorem iH.set {b n:Nat} (h:iH vv abs vo (.osl 1 b n) ow H) (i:Nat) (v:Int):iH vv abs vo (.osl 1 b n) (ow.set i v) (upd H b (some (.rows 1 ((ow.map gI).set i [.int .u32 v])))):=by
 refine⟨?_,h.nv,h.na,h.nf⟩;rcases h.h with⟨e,_⟩|⟨a,e,c⟩
 ·cases e
 simp only[AV.osl.injEq,true_and]at e;obtain⟨rfl,rfl⟩:=e;exact .inr ⟨b,by simp,by rw[bO,rE]⟩
theorem kP.words {s b n:Nat} (h:kP r vv abs vo vo' x (.osl s b n) H H') (o:Option iG):kP r vv abs vo vo' x (.osl s b n) H (upd H' b o):=fun c u t g i j k l a=>by
 obtain⟨d,f⟩:=h c u t g i j k l a;exact⟨by rw[cG _ _ (fun e=>a _ _ (by rw[e]))];exact d,f⟩
theorem kP.frame (h:kP r vv abs vo vo' x wv H H') (o:Option iG):kP r vv abs vo vo' x wv H (upd H' x o):=fun b l k e f g i a j=>by
 obtain⟨c,d⟩:=h b l k e f g i a j;exact⟨by rw[cG _ _ a];exact c,d⟩
theorem iH.offv {s b n:Nat} (h:iH (.osl s b n) abs vo wv ow H):Al.off wv b:=fun c a e=>h.nv _ _ _ e _ _ rfl
theorem iH.offa (h:iH vv abs vo wv ow H) {b:Nat} (a:b∈abs):Al.off wv b:=fun _ _ e=>h.na _ _ _ e a
end
def Ik (cx:Cx) (d:Nat) (rs:dE→Bool×Int) (c:Ex) (t:List Sm) (ow:List Int) (st:RS):Option (Rz (Option Int×List Int)):=
 bindR (jZ cx d rs ow c st) fun x st=>if x=0 then some (.val (none,ow) st)else bindR (nK cx d rs ow t st) fun r st=>match r.1 with
  |some v=>some (.val (some v,r.2) st)
  |none=>xT cx d rs r.2 c t st
theorem Ym (cx:Cx) (d:Nat) (b:dE→Bool×Int) (c:Ex) (t:List Sm) (a:List Int) (st:RS):xT cx (d+1) b a c t st=bindR (some (lP cx st)) fun _ st=>Ik cx d b c t a st:=by
 simp only[xT,Ik]<;>rfl
theorem fQ.seal {p:Pg} {cx:Cx} {r:Nat} {vv vo:AV} {abs:List Nat} {st:RS} {i:Int} {H:Hp} {E:kB} {N:Nat} {Q:fF} {c:Code} {fr:Fr} (f:fQ p cx r vv abs st vo i H)
  (h: ∀g d,(∀j,tR (fr j)=true→g j=fr j)→d r=some (.rows 11 [[.isl 1 (p.vars.map bT), .isl 2 (p.arrs.map Ar.row), .isl 5 (p.funs.map Fu.row), .str cx.inp, .int .i64 cx.fuel,vv, .isl 1 (fR abs st.arrs), .isl 1 (st.out.map rJ), .int .i64 st.read, .int .i64 st.ticks, .int .i64 i]])→
   (∀b s l,b≠r→off vo b→(∀r∈l, ∀x∈r,tR x=true)→H b=some (.rows s l)→d b=some (.rows s l))→mB E N c Q g d):mB E N c Q fr H:=by
 have y:H r=some (.rows 11 [[AV.isl 1 (p.vars.map bT), .isl 2 (p.arrs.map Ar.row), .isl 5 (p.funs.map Fu.row), .str cx.inp, .int .i64 cx.fuel,vv, .isl 1 (fR abs st.arrs)]++vo::[.int .i64 st.read, .int .i64 st.ticks, .int .i64 i]]):=f.r;refine iE f.o y (fun x a=>?_) (fun x a=>?_) (f.o.offsz f.r (by decide)) fun g d z A B=>h g d (fun j C=>z j (bS C)) A fun b s l k t u v=>B b s l k t (fun r D x a=>bS (u r D x a)) v
 ·simp only[bJ,bL,dD]at a
  rcases a with rfl|rfl|rfl|rfl|rfl|rfl|rfl
  ·exact bS rfl
  ·exact bS rfl
  ·exact bS rfl
  ·exact bS rfl
  ·exact bS rfl
  ·exact fun s b n e=>f.ov s b n e
  exact bS rfl
 simp only[bJ,bL,dD]at a;rcases a with rfl|rfl|rfl<;>exact bS rfl
structure Gw (fuel:Nat) (s s':RS):Prop where
 out:s.out<+:s'.out
 t:s.ticks≤s'.ticks
 f:s.ticks≤fuel→s'.ticks≤fuel
theorem Gw.refl (a:Nat) (s:RS):Gw a s s:=⟨rB _,aZ _,fun h=>h⟩
theorem Gw.trans {a:Nat} {s s1 s2:RS} (h:Gw a s s1) (b:Gw a s1 s2):Gw a s s2:=⟨h.out.trans b.out,oH h.t b.t,fun x=>b.f (h.f x)⟩
def fV {α:Type} (fuel:Nat) (s:RS) (x:Option (Rz α)):Prop:= ∀o,x=some o→Gw fuel s o.st
theorem fV.none {b:Type} (a:Nat) (s:RS):fV a s (none:Option (Rz b)):=fun _ h=>by cases h
theorem fV.val {c:Type} {b:Nat} {s s':RS} (h:Gw b s s') (a:c):fV b s (some (.val a s')):=fun _ e=>by cases e;exact h
theorem fV.fin {c:Type} {b:Nat} {s s':RS} (h:Gw b s s') (a:Int):fV b s (some (.fin a s':Rz c)):=fun _ e=>by cases e;exact h
theorem fV.bind {i k:Type} {c:Nat} {s:RS} {x:Option (Rz i)} {f:i→RS→Option (Rz k)} (h:fV c s x) (j: ∀a b,fV c b (f a b)):fV c s (bindR x f):=fun o d=>by
 cases x with
 |none=>cases d
 |some r=>
  have g:=h r rfl
  cases r with
  |val a b=>exact g.trans (j a b o d)
  |fin e b=>cases d;exact g
theorem fV.ite {d:Type} {a:Nat} {s:RS} {c:Prop} [Decidable c] {x y:Option (Rz d)} (h:fV a s x) (b:fV a s y):fV a s (if c then x else y):=by
 split
 ·exact h
 exact b
theorem Gs (cx:Cx) (st:RS):fV cx.fuel st (some (lP cx st)):=by
 unfold lP;split
 ·exact fV.fin (Gw.refl _ _) _
 exact fV.val (by exact⟨rB _,Nat.le_succ _,fun _=>by show st.ticks+1≤_;omega⟩) _
theorem TL (cx:Cx) (a:Nat) (st:RS):fV a st (some (yE cx st)):=by
 unfold yE;split
 ·exact fV.val (by exact⟨rB _,aZ _,fun h=>h⟩) _
 exact fV.val (Gw.refl _ _) _
theorem HM (a:Nat) (v:Int) (st:RS):fV a st (some (Ge v st)):=by
 unfold Ge;split
 ·exact fV.fin (Gw.refl _ _) _
 exact fV.val (by exact⟨List.prefix_append _ _,aZ _,fun h=>h⟩) _
theorem Zj (a:Nat) (i x:Int) (st:RS):fV a st (A9 i x st):=by
 unfold A9;split
 ·exact fV.none _ _
 split
 ·exact fV.val (Gw.refl _ _) _
 exact fV.fin (Gw.refl _ _) _
theorem HA (a:Nat) (p:Bool×Int) (v:Int) (b:List Int) (st:RS):fV a st ((Nr p v b st).map fun r=>Rz.val ((none:Option Int),r.1) r.2):=by
 unfold Nr;split
 ·split
  ·split
   ·exact fV.val (Gw.refl _ _) _
   exact fV.none _ _
  split
  ·exact fV.val (by exact⟨rB _,aZ _,fun h=>h⟩) _
  exact fV.none _ _
 exact fV.none _ _
structure YU (cx:Cx) (n:Nat):Prop where
 E: ∀rs ow e st,fV cx.fuel st (jZ cx n rs ow e st)
 A: ∀rs ow l st,fV cx.fuel st (wO cx n rs ow l st)
 C: ∀rs ow i l st,fV cx.fuel st (Gi cx n rs ow i l st)
 S: ∀rs ow e st,fV cx.fuel st (oW cx n rs ow e st)
 L: ∀rs ow l st,fV cx.fuel st (nK cx n rs ow l st)
 W: ∀rs ow c t st,fV cx.fuel st (xT cx n rs ow c t st)
theorem grow (cx:Cx) (n:Nat):YU cx n:=by
 induction n with
 |zero=>
  constructor
  all_goals
   intros
   intro o h;simp [jZ,wO,Gi,oW,nK,xT]at h
 |succ n ih=>
  obtain⟨d,z,A,C,y,B⟩:=ih;constructor
  ·rintro g p ⟨k,o,m,s,l⟩ st
   simp only[jZ];refine fV.ite (fV.val (Gw.refl _ _) _) (fV.ite ?_ (fV.ite ?_ (fV.ite (A _ _ _ _ _) (fV.ite (TL _ _ _) ?_))))
   ·cases Eh (g s) p st with
    |none=>exact fV.none _ _
    |some v=>exact fV.val (Gw.refl _ _) _
   ·cases l[0]? with
    |none=>exact fV.none _ _
    |some a=>
     refine fV.bind (d _ _ _ _) fun x st=>fV.ite (fV.bind (Zj _ _ _ _) fun j st=>?_) (fV.none _ _)
     cases(st.arrs[(g s).2.toNat]?).bind fun l=>l[j]? with
     |none=>exact fV.none _ _
     |some v=>exact fV.val (Gw.refl _ _) _
   cases l[0]? with
   |none=>exact fV.none _ _
   |some a=>
    refine fV.ite (fV.bind (d _ _ _ _) fun _ _=>fV.val (Gw.refl _ _) _) ?_
    cases l[1]? with
    |none=>exact fV.none _ _
    |some b=>
     refine fV.ite (fV.bind (d _ _ _ _) fun _ _=>fV.bind (d _ _ _ _) fun _ _=>fV.ite (fV.val (Gw.refl _ _) _) (fV.fin (Gw.refl _ _) _)) ?_;exact fV.bind (d _ _ _ _) fun _ _=>fV.ite (fV.val (Gw.refl _ _) _) (d _ _ _ _)
  ·intro g p l st
   cases l with
   |nil=>simp only[wO];exact fV.val (Gw.refl _ _) _
   |cons e l=>
    simp only[wO];exact fV.bind (d _ _ _ _) fun _ _=>fV.bind (z _ _ _ _) fun _ _=>fV.val (Gw.refl _ _) _
  ·intro g p i l st
   simp only[Gi];refine fV.ite (fV.none _ _) ?_
   cases cx.funs[i.toNat]? with
   |none=>exact fV.none _ _
   |some f=>exact fV.ite (fV.none _ _) (fV.bind (z _ _ _ _) fun _ _=>fV.bind (Gs _ _) fun _ _=>fV.bind (y _ _ _ _) fun _ _=>fV.val (Gw.refl _ _) _)
  ·rintro g p ⟨k,s,l,t,u⟩ st
   simp only[oW];refine fV.ite ?_ (fV.ite ?_ (fV.ite ?_ (fV.ite ?_ (fV.ite ?_ (fV.ite ?_ (fV.ite ?_ (fV.val (Gw.refl _ _) _)))))))
   ·cases l[0]? with
    |none=>exact fV.none _ _
    |some a=>exact fV.bind (d _ _ _ _) fun _ _=>HA _ _ _ _ _
   ·cases l[0]? with
    |none=>exact fV.none _ _
    |some a=>
     cases l[1]? with
     |none=>exact fV.none _ _
     |some b=>exact fV.bind (d _ _ _ _) fun _ _=>fV.bind (d _ _ _ _) fun _ st=>fV.ite (fV.bind (Zj _ _ _ _) fun _ _=>fV.val (by exact⟨rB _,aZ _,fun h=>h⟩) _) (fV.none _ _)
   ·cases l[0]? with
    |none=>exact fV.none _ _
    |some a=>exact fV.bind (d _ _ _ _) fun _ _=>fV.bind (HM _ _ _) fun _ _=>fV.val (Gw.refl _ _) _
   ·cases l[0]? with
    |none=>exact fV.none _ _
    |some a=>exact fV.bind (d _ _ _ _) fun _ _=>fV.ite (y _ _ _ _) (y _ _ _ _)
   ·cases l[0]? with
    |none=>exact fV.none _ _
    |some a=>exact B _ _ _ _ _
   ·exact fV.bind (A _ _ _ _ _) fun _ _=>fV.val (Gw.refl _ _) _
   cases l[0]? with
   |none=>exact fV.val (Gw.refl _ _) _
   |some a=>exact fV.bind (d _ _ _ _) fun _ _=>fV.val (Gw.refl _ _) _
  ·intro g p l st
   cases l with
   |nil=>simp only[nK];exact fV.val (Gw.refl _ _) _
   |cons s l=>
    simp only[nK];refine fV.bind (C _ _ _ _) fun r st=>?_
    cases r.1 with
    |some v=>exact fV.val (Gw.refl _ _) _
    |none=>exact y _ _ _ _
  intro g p c t st;simp only[xT];refine fV.bind (Gs _ _) fun _ st=>fV.bind (d _ _ _ _) fun x st=>fV.ite (fV.val (Gw.refl _ _) _) (fV.bind (y _ _ _ _) fun r st=>?_)
  cases r.1 with
  |some v=>exact fV.val (Gw.refl _ _) _
  |none=>exact B _ _ _ _ _
def iZ {α:Type} (F:Nat) (x y:Option (Rz α)):Prop:= ∀o,x=some o→(match o with
 | .fin e s=>(e≠5∧y=some o)∨(e=5∧F≤s.ticks∧ ∀o',y=some o'→s.out<+:o'.st.out∧s.ticks≤o'.st.ticks)
 | .val _ _=>y=some o)
section
variable {F F' : Nat}
theorem iZ.none {a:Type} (y:Option (Rz a)):iZ F none y:=fun _ h=>by cases h
theorem iZ.val {b:Type} (a:b) (s:RS):iZ F (some (.val a s)) (some (.val a s)):=fun _ h=>by cases h;rfl
theorem iZ.fin {b:Type} {e:Int} (a:e≠5) (s:RS):iZ F (some (.fin e s:Rz b)) (some (.fin e s)):=fun _ h=>by cases h;exact .inl ⟨a,rfl⟩
theorem iZ.same {d:Type} {x:Option (Rz d)} (h: ∀s,x≠some (.fin 5 s)):iZ F x x:=fun o b=>by
 cases o with
 |val a s=>exact b
 |fin e s=>
  refine .inl ⟨fun c=>?_,b⟩;subst c;exact h s b
theorem iZ.bind {l A:Type} {x y:Option (Rz l)} {f g:l→RS→Option (Rz A)} (h:iZ F x y) (p: ∀a s,iZ F (f a s) (g a s)) (u: ∀a s,fV F' s (g a s)):iZ F (bindR x f) (bindR y g):=fun o i=>by
 cases x with
 |none=>cases i
 |some r=>
  have b:=h r rfl
  cases r with
  |val a s=>
   simp only at b;subst b;exact p a s o i
  |fin e s=>
   cases i;simp only at b⊢;rcases b with⟨d,rfl⟩|⟨d,v,n⟩
   ·exact .inl ⟨d,rfl⟩
   refine .inr ⟨d,v,fun z j=>?_⟩
   cases y with
   |none=>cases j
   |some r'=>
    have c:=n r' rfl
    cases r' with
    |val a s'=>
     have k:=u a s' z j;simp only[Rz.st]at c;exact⟨c.1.trans k.out,oH c.2 k.t⟩
    |fin e s'=>cases j;exact c
theorem iZ.ite {e:Type} {c:Prop} [Decidable c] {x y a b:Option (Rz e)} (h:iZ F x a) (d:iZ F y b):iZ F (if c then x else y) (if c then a else b):=by
 split
 ·exact h
 exact d
end
structure YT (cx cx':Cx) (n:Nat):Prop where
 E: ∀rs ow e st,iZ cx.fuel (jZ cx n rs ow e st) (jZ cx' n rs ow e st)
 A: ∀rs ow l st,iZ cx.fuel (wO cx n rs ow l st) (wO cx' n rs ow l st)
 C: ∀rs ow i l st,iZ cx.fuel (Gi cx n rs ow i l st) (Gi cx' n rs ow i l st)
 S: ∀rs ow e st,iZ cx.fuel (oW cx n rs ow e st) (oW cx' n rs ow e st)
 L: ∀rs ow l st,iZ cx.fuel (nK cx n rs ow l st) (nK cx' n rs ow l st)
 W: ∀rs ow c t st,iZ cx.fuel (xT cx n rs ow c t st) (xT cx' n rs ow c t st)
theorem N8 {cx b:Cx} (h:cx.fuel≤b.fuel) (st:RS):iZ cx.fuel (some (lP cx st)) (some (lP b st)):=by
 intro o a;unfold lP at a;split at a
 ·cases a
  refine .inr ⟨rfl,by assumption,fun d c=>?_⟩;have:=Gs b st d c;exact⟨this.out,this.t⟩
 cases a;simp only[lP];rw[aO (by omega)]
theorem Y2 {cx d:Cx} (I:cx.fuel≤d.fuel) (M:d.funs=cx.funs) (O:d.inp=cx.inp) (n:Nat):YT cx d n:=by
 induction n with
 |zero=>
  constructor
  all_goals
   intros
   intro o h;simp [jZ,wO,Gi,oW,nK,xT]at h
 |succ n ih=>
  obtain⟨g,D,E,L,A,G⟩:=ih;obtain⟨B,J,Q,R,y,K⟩:=grow d n;have N: ∀st,yE d st=yE cx st:=fun st=>by simp only[yE,O]
  have H: ∀i x st,iZ cx.fuel (A9 i x st) (A9 i x st):=fun i x st=>iZ.same fun s h=>by
   unfold A9 at h;split at h
   ·cases h
   split at h<;>cases h
  have P: ∀v st,iZ cx.fuel (some (Ge v st)) (some (Ge v st)):=fun v st=>iZ.same fun s h=>by
   unfold Ge at h;split at h<;>cases h
  constructor
  ·rintro p z ⟨k,o,m,s,l⟩ st
   simp only[jZ,N];refine iZ.ite (iZ.val _ _) (iZ.ite ?_ (iZ.ite ?_ (iZ.ite (E _ _ _ _ _) (iZ.ite ?_ ?_))))
   ·cases Eh (p s) z st with
    |none=>exact iZ.none _
    |some v=>exact iZ.val _ _
   ·cases l[0]? with
    |none=>exact iZ.none _
    |some a=>
     refine iZ.bind (F':=d.fuel) (g _ _ _ _) (fun x st=>iZ.ite (iZ.bind (F':=d.fuel) (H _ _ _) (fun j st=>?_) fun j st=>?_) (iZ.none _)) fun x st=>fV.ite (fV.bind (Zj _ _ _ _) fun j st=>?_) (fV.none _ _)
     all_goals cases(st.arrs[(p s).2.toNat]?).bind fun l=>l[j]?
     all_goals first|exact iZ.none _|exact iZ.val _ _|exact fV.none _ _|exact fV.val (Gw.refl _ _) _
   ·exact iZ.same fun s h=>by
     unfold yE at h;split at h<;>cases h
   cases l[0]? with
   |none=>exact iZ.none _
   |some a=>
    refine iZ.ite (iZ.bind (F':=d.fuel) (g _ _ _ _) (fun _ _=>iZ.val _ _) fun _ _=>fV.val (Gw.refl _ _) _) ?_
    cases l[1]? with
    |none=>exact iZ.none _
    |some b=>
     refine iZ.ite (iZ.bind (F':=d.fuel) (g _ _ _ _) (fun _ _=>iZ.bind (F':=d.fuel) (g _ _ _ _) (fun _ _=>iZ.ite (iZ.val _ _) (iZ.fin (by decide) _)) fun _ _=>fV.ite (fV.val (Gw.refl _ _) _) (fV.fin (Gw.refl _ _) _)) fun _ _=>fV.bind (B _ _ _ _) fun _ _=>fV.ite (fV.val (Gw.refl _ _) _) (fV.fin (Gw.refl _ _) _)) ?_;exact iZ.bind (F':=d.fuel) (g _ _ _ _) (fun _ _=>iZ.ite (iZ.val _ _) (g _ _ _ _)) fun _ _=>fV.ite (fV.val (Gw.refl _ _) _) (B _ _ _ _)
  ·intro p z l st
   cases l with
   |nil=>simp only[wO];exact iZ.val _ _
   |cons e l=>
    simp only[wO];exact iZ.bind (F':=d.fuel) (g _ _ _ _) (fun _ _=>iZ.bind (F':=d.fuel) (D _ _ _ _) (fun _ _=>iZ.val _ _) fun _ _=>fV.val (Gw.refl _ _) _) fun _ _=>fV.bind (J _ _ _ _) fun _ _=>fV.val (Gw.refl _ _) _
  ·intro p z i l st
   simp only[Gi,M];refine iZ.ite (iZ.none _) ?_
   cases cx.funs[i.toNat]? with
   |none=>exact iZ.none _
   |some f=>
    exact iZ.ite (iZ.none _) (iZ.bind (F':=d.fuel) (D _ _ _ _) (fun _ _=>iZ.bind (F':=d.fuel) (N8 I _) (fun _ _=>iZ.bind (F':=d.fuel) (A _ _ _ _) (fun _ _=>iZ.val _ _) fun _ _=>fV.val (Gw.refl _ _) _) fun _ _=>fV.bind (y _ _ _ _) fun _ _=>fV.val (Gw.refl _ _) _) fun _ _=>fV.bind (Gs _ _) fun _ _=>fV.bind (y _ _ _ _) fun _ _=>fV.val (Gw.refl _ _) _)
  ·rintro p z ⟨k,s,l,t,u⟩ st
   simp only[oW];refine iZ.ite ?_ (iZ.ite ?_ (iZ.ite ?_ (iZ.ite ?_ (iZ.ite ?_ (iZ.ite ?_ (iZ.ite ?_ (iZ.val _ _)))))))
   ·cases l[0]? with
    |none=>exact iZ.none _
    |some a=>
     refine iZ.bind (F':=d.fuel) (g _ _ _ _) (fun v st=>?_) fun _ _=>HA _ _ _ _ _
     cases Nr (p s) v z st with
     |none=>exact iZ.none _
     |some r=>exact iZ.val _ _
   ·cases l[0]? with
    |none=>exact iZ.none _
    |some a=>
     cases l[1]? with
     |none=>exact iZ.none _
     |some b=>exact iZ.bind (F':=d.fuel) (g _ _ _ _) (fun _ _=>iZ.bind (F':=d.fuel) (g _ _ _ _) (fun _ st=>iZ.ite (iZ.bind (F':=d.fuel) (H _ _ _) (fun _ _=>iZ.val _ _) fun _ _=>fV.val (by exact⟨rB _,aZ _,fun h=>h⟩) _) (iZ.none _)) fun _ _=>fV.ite (fV.bind (Zj _ _ _ _) fun _ _=>fV.val (by exact⟨rB _,aZ _,fun h=>h⟩) _) (fV.none _ _)) fun _ _=>fV.bind (B _ _ _ _) fun _ _=>fV.ite (fV.bind (Zj _ _ _ _) fun _ _=>fV.val (by exact⟨rB _,aZ _,fun h=>h⟩) _) (fV.none _ _)
   ·cases l[0]? with
    |none=>exact iZ.none _
    |some a=>exact iZ.bind (F':=d.fuel) (g _ _ _ _) (fun _ _=>iZ.bind (F':=d.fuel) (P _ _) (fun _ _=>iZ.val _ _) fun _ _=>fV.val (Gw.refl _ _) _) fun _ _=>fV.bind (HM _ _ _) fun _ _=>fV.val (Gw.refl _ _) _
   ·cases l[0]? with
    |none=>exact iZ.none _
    |some a=>exact iZ.bind (F':=d.fuel) (g _ _ _ _) (fun _ _=>iZ.ite (A _ _ _ _) (A _ _ _ _)) fun _ _=>fV.ite (y _ _ _ _) (y _ _ _ _)
   ·cases l[0]? with
    |none=>exact iZ.none _
    |some a=>exact G _ _ _ _ _
   ·exact iZ.bind (F':=d.fuel) (E _ _ _ _ _) (fun _ _=>iZ.val _ _) fun _ _=>fV.val (Gw.refl _ _) _
   cases l[0]? with
   |none=>exact iZ.val _ _
   |some a=>exact iZ.bind (F':=d.fuel) (g _ _ _ _) (fun _ _=>iZ.val _ _) fun _ _=>fV.val (Gw.refl _ _) _
  ·intro p z l st
   cases l with
   |nil=>simp only[nK];exact iZ.val _ _
   |cons s l=>
    simp only[nK];refine iZ.bind (F':=d.fuel) (L _ _ _ _) (fun r st=>?_) fun r st=>?_
    ·cases r.1 with
     |some v=>exact iZ.val _ _
     |none=>exact A _ _ _ _
    cases r.1 with
    |some v=>exact fV.val (Gw.refl _ _) _
    |none=>exact y _ _ _ _
  intro p z c t st
  have C: ∀(r:Option Int×List Int) st,fV d.fuel st (match r.1 with |some v=>some (.val (some v,r.2) st)|none=>xT d n p r.2 c t st):=fun r st=>by
   cases r.1 with
   |some v=>exact fV.val (Gw.refl _ _) _
   |none=>exact K _ _ _ _ _
  simp only[xT];refine iZ.bind (F':=d.fuel) (N8 I _) (fun _ st=>iZ.bind (F':=d.fuel) (g _ _ _ _) (fun x st=>iZ.ite (iZ.val _ _) (iZ.bind (F':=d.fuel) (A _ _ _ _) (fun r st=>?_) fun r st=>C r st)) fun _ _=>fV.ite (fV.val (Gw.refl _ _) _) (fV.bind (y _ _ _ _) C)) fun _ _=>fV.bind (B _ _ _ _) fun _ _=>fV.ite (fV.val (Gw.refl _ _) _) (fV.bind (y _ _ _ _) C)
  cases r.1 with
  |some v=>exact iZ.val _ _
  |none=>exact G _ _ _ _ _
end Go.Al
namespace Go.Proofs.YtaecpjgmcffliaaGreatDoor
open Go.Al Go.Proofs.Tryz
section
variable {p : Pg} {cx : Cx} {r : Nat} {vv : AV} {abs : List Nat} {n : Nat}
theorem Ej {en:Int} (ih:en=0→Bi p cx r vv abs n) (z:PD cx) (i:Nat) (rs:dE→Bool×Int) (ow:List Int) (e:Ex) (st:RS) (vo:AV) (H:Hp) (x:Nat) (wv:AV) (bk:Bool) (vl:Int) (o:Rz Int) (he:e.ok) (hU: ∀u∈pI e,UJ p i rs u) (d: ∀u∈fO e.kids,UJ p i rs u) (R:fQ p cx r vv abs st vo en H) (hW:iH vv abs vo wv ow H) (hu: ∀y∈ow,dQ y) (a3:H x=some (.rows 4 [[.int .i64 i,wv, .bool bk, .int .u32 vl]])) (h:vJ en st (jZ cx (n+1) rs ow e st) o):
  pP dR 153 [.ptr 11 r 0 0, .ptr 4 x 0 0, .agg e.row] H (Xn p cx r vv abs vo H o):=by
 obtain⟨k,op,m,s,l⟩:=e;have t:=R.r;have f8:=he.num;have d5:=he.kids;simp only[Ex.num,Ex.kids]at f8 d5 d;have g5:(Ex.mk k op m s l).row=[.int .i64 k, .int .i64 op, .int .u32 m, .str s, .isl 5 (l.map Ex.row)]:=Ex.row_eq _;rw[g5];clear g5;have i4:x≠r:=fun e=>by rw[e,t]at a3;cases a3
 have j1:=i4.symm;rcases h with⟨rfl,h⟩|⟨f4,rfl⟩
 rotate_left
 ·have z0: ¬en=0:=f4
  refine bU 232 [.tmp 6] func153 ?_;refine aA fun K d=>?_;simp only[RR,seval];refine aN fun L g=>?_;have N:=cR g t;have B:=N.symm;simp only[RR,seval];refine d _ _ (aH (aA fun K d=>?_));simp only[t,B,z0,RR,seval];refine d _ _ (cM (aA fun K d=>?_));simp only[RR,seval];apply d;refine aP ?_;simp only[aY,aK,bP,RR,seval];exact bB.run ⟨0,vo,rfl,by simp [dQ],(fun _ _ e=>by cases e),(fun _ _ e=>by cases e;exact f4),R.new g _,(dY.refl _ _ _ _ _).updN g _⟩
 have ih:=ih rfl;simp only[jZ]at h;have h0: ∀{j:Nat} {a:Ex},l[j]?=some a→a.ok:=fun hj=>d5.all _ (aW hj);have hV:=fun(j:Nat) (a:Ex) (hj:l[j]?=some a) st vo en H o h3 h4 h5 h6=>ih.V i rs ow a st vo en H x wv bk vl o (h0 hj) (fun u hu=>d u ((fY (aW hj)).1 u hu)) (fun u hu=>d u ((fY (aW hj)).2 u hu)) h3 h4 hu h5 h6;have f9:p.av= .agg [.isl 1 (p.vars.map bT), .isl 2 (p.arrs.map Ar.row), .isl 5 (p.funs.map Fu.row)]:=rfl;by_cases k1:k=1
 ·subst k1
  simp only[cQ]at h;cases h;refine bU 232 [.tmp 6] func153 ?_;refine aA fun K d=>?_;simp only[RR,seval];refine aN fun L g=>?_;have N:=cR g t;have B:=N.symm;simp only[RR,seval];refine d _ _ (aH (aA fun K d=>?_));simp only[t,B,RR,seval];refine d _ _ (bK ?_);refine aL ?_;simp only[RR];refine aH (aA fun K d=>?_);simp only[RR,seval];refine d _ _ (aQ (aA fun K d=>?_));simp only[RR,seval];refine d _ _ (cM (aA fun K d=>?_));simp only[RR,seval];apply d;refine aP ?_;simp only[aY,aK,bP,RR,seval];exact bB.run ⟨m,vo,rfl,f8,(fun _ _ e=>by cases e;rfl),(fun _ _ e=>by cases e),R.new g _,(dY.refl _ _ _ _ _).updN g _⟩
 by_cases k2:k=2
 ·subst k2
  simp only[show ¬(2:Int)=1 by decide,dT,cQ,Eh]at h;have a9:=hU ⟨s,1,0⟩ (by simp [pI,Ex.kind,Ex.name]);have hF:=a9.f;rw[f9]at hF;simp only at hF;have hk:=a9.k1;generalize eZ p i s=fi at hF hk;obtain⟨kk,ii⟩:=fi;simp only at hF hk;by_cases z0:0≤(rs s).2
  rotate_left
  ·rw[aO z0]at h;cases h
  rw[bF z0]at h;rcases hk with⟨rfl,c5⟩|⟨rfl,c5⟩
  ·rw[c5]at h z0
   simp only[cQ,bG]at h z0;obtain⟨y,hg,rfl⟩:=h;obtain⟨bo,rfl,b9⟩:=hW.osl hg;have hl:=(bD.1 hg).1;have zl:ii<(ow.length:Int):=by omega
   have d2:=tH hg;have d7:=hu y (aW hg);have z:=a3;have d8:bo≠r:=R.nr b9;have d9:bo≠x:=fun e=>by rw[e,a3]at b9;cases b9
   have i0:r≠bo:=fun e=>d8 e.symm;have i3:x≠bo:=fun e=>d9 e.symm;refine bU 232 [.tmp 6] func153 ?_;refine aA fun K d=>?_;simp only[RR,seval];refine aN fun L g=>?_;have N:=cR g t;have B:=N.symm;have Y:=cR g z;have W:=Y.symm;have h7:=cR g b9;have i1:=h7.symm;simp only[RR,seval];refine d _ _ (aH (aA fun K d=>?_));simp only[t,B,RR,seval];refine d _ _ (bK ?_);refine aL ?_;simp only[RR];refine aH (aA fun K d=>?_);simp only[RR,seval];refine d _ _ (aQ (aA fun K d=>?_));simp only[RR,seval];refine d _ _ (bK (aA fun K d=>?_));simp only[RR,seval];refine d _ _ (cM (aG fun K d=>?_));refine bA (fun x=>x≠r∧x≠x∧x≠bo∧x≠L) [(0,3),(1,3),(2,3),(3,1),(4,3),(5,3),(6,3),(7,1),(8,3),(9,1),(10,1),(11,3),(12,3),(13,3),(14,3),(15,3)] [] eB (by kernel_rfl) rfl rfl ?_;simp only[dI,t,z,B,W,RR,seval];refine aI (hF) ?_;simp only[RR,seval];refine d _ _ (aH (aA fun K d=>?_));simp only[RR,seval];refine d _ _ (cM (aA fun K d=>?_));simp only[z,b9,W,i1,z0,zl,d2,RR,seval];apply d;refine aP ?_;simp only[aY,aK,bP,RR,seval];exact bB.run ⟨y,vo,rfl,d7,(fun _ _ e=>by cases e;rfl),(fun _ _ e=>by cases e),R.new g _,(dY.refl _ _ _ _ _).updN g _⟩
  rw[c5]at h z0;simp only[cK,dT,bG]at h z0;obtain⟨y,hg,rfl⟩:=h;obtain⟨bv,rfl,c0⟩:=R.osl hg;have hl:=(bD.1 hg).1;have zl:ii<(st.vars.length:Int):=by omega
  have d2:=tH hg;have d7:=R.uv y (aW hg);have z:=a3;have d8:bv≠r:=R.nr c0;have d9:bv≠x:=fun e=>by rw[e,a3]at c0;cases c0
  have i0:r≠bv:=fun e=>d8 e.symm;have i3:x≠bv:=fun e=>d9 e.symm;refine bU 232 [.tmp 6] func153 ?_;refine aA fun K d=>?_;simp only[RR,seval];refine aN fun L g=>?_;have N:=cR g t;have B:=N.symm;have Y:=cR g z;have W:=Y.symm;have h8:=cR g c0;have i2:=h8.symm;simp only[RR,seval];refine d _ _ (aH (aA fun K d=>?_));simp only[t,B,RR,seval];refine d _ _ (bK ?_);refine aL ?_;simp only[RR];refine aH (aA fun K d=>?_);simp only[RR,seval];refine d _ _ (aQ (aA fun K d=>?_));simp only[RR,seval];refine d _ _ (bK (aA fun K d=>?_));simp only[RR,seval];refine d _ _ (cM (aG fun K d=>?_));refine bA (fun x=>x≠r∧x≠x∧x≠bv∧x≠L) [(0,3),(1,3),(2,3),(3,1),(4,3),(5,3),(6,3),(7,1),(8,3),(9,1),(10,1),(11,3),(12,3),(13,3),(14,3),(15,3)] [] eB (by kernel_rfl) rfl rfl ?_;simp only[dI,t,z,B,W,RR,seval];refine aI (hF) ?_;simp only[RR,seval];refine d _ _ (aH (aA fun K d=>?_));simp only[RR,seval];refine d _ _ (bK ?_);refine aL ?_;simp only[RR];refine aA fun K d=>?_;simp only[t,c0,B,i2,z0,zl,d2,RR,seval];apply d;refine aP ?_;simp only[aY,aK,bP,RR,seval];exact bB.run ⟨y,vo,rfl,d7,(fun _ _ e=>by cases e;rfl),(fun _ _ e=>by cases e),R.new g _,(dY.refl _ _ _ _ _).updN g _⟩
 by_cases k3:k=3
 ·subst k3
  simp only[show ¬(3:Int)=1 by decide,show ¬(3:Int)=2 by decide,dT,cQ]at h;have a9:=hU ⟨s,3,0⟩ (by simp [pI,Ex.kind,Ex.name]);have hF:=a9.f;rw[f9]at hF;simp only at hF;have hk:=a9.k3;generalize eZ p i s=fi at hF hk;obtain⟨kk,ii⟩:=fi;simp only at hF hk;obtain⟨rfl,c5⟩:=hk;rw[c5]at h
  cases hl0:l[0]? with
  |none=>rw[hl0]at h;cases h
  |some a=>
   simp only[hl0]at h;have b1:=qO hl0
   obtain⟨F,h1⟩: ∃F,jZ cx n rs ow a st=some F:=by
    cases h1:jZ cx n rs ow a st with
    |none=>rw[h1]at h;cases h
    |some F=>exact⟨F,rfl⟩
   rw[h1]at h;have a5:=fun H' g1 g2 g3=>hV 0 a hl0 st vo 0 H' F g1 g2 g3 (.inl ⟨rfl,h1⟩);rw[a.row_eq]at a5;have z:=a3;obtain⟨HX,e0⟩: ∃X,X=H:=⟨_,rfl⟩;refine bU 232 [.tmp 6] func153 ?_;refine aA fun K d=>?_;simp only[RR,seval];refine aN fun L g=>?_;have N:=cR g t;have B:=N.symm;have Y:=cR g z;have W:=Y.symm;simp only[RR,seval];refine d _ _ (aH (aA fun K d=>?_));simp only[t,B,RR,seval];refine d _ _ (bK ?_);refine aL ?_;simp only[RR];refine aH (aA fun K d=>?_);simp only[RR,seval];refine d _ _ (aQ (aA fun K d=>?_));simp only[RR,seval];refine d _ _ (bK (aA fun K d=>?_));simp only[RR,seval];refine d _ _ (bK (aA fun K d=>?_));simp only[RR,seval];refine d _ _ (cM (aG fun K d=>?_));refine bA (fun x=>x≠r∧x≠x∧x≠L) [(0,3),(1,3),(2,3),(3,1),(4,3),(5,3),(6,3),(7,1),(8,3),(9,1),(10,1),(11,3),(12,3),(13,3),(14,3),(15,3)] [] eB (by kernel_rfl) rfl rfl ?_;simp only[dI,t,z,B,W,RR,seval];refine aI (hF) ?_;simp only[RR,seval];refine d _ _ (bN fun F1 M1 G A=>?_);have J:=G 0;have Q:=G 1;have O:=G 5;have f6:=G 6;have c9:=G 10;have T:=A r;have U:=A x;have I:=A L;simp only[t,z,B,W,RR,seval]at J Q O f6 c9 T U I;have hM:=funext A;have P:=(R.new g _).same A;have Z:=(hW.new g _).same A;have a0:dY r vv abs vo vo H M1:=by rw[hM];exact(dY.refl _ _ _ _ _).updN g _
   have t:=T;have z:=U;refine aA fun K d=>?_;simp only[J,Q,O,I,b1,RR,seval];refine mR (a5 _ P Z z) (fun _=>trivial) fun w a1 H1 uw c6 b3 E M=>?_;have t:=E.r;have z:=P.keep z (by decide) (by decide) M;have d3:=a0.trans M;simp only[RR,seval];refine d _ _ (aH (aA fun K d=>?_));simp only[J,t,RR,seval];refine d _ _ (aX ?_ ?_)<;>intro e5
   ·obtain⟨S,D,rfl⟩:=sR (o:=F) (by simpa using e5)
    obtain rfl:=Option.some.inj (show some (Rz.fin S D)=some o from h);refine aA fun K d=>?_;simp only[RR,seval];apply d;refine aP ?_;simp only[aY,aK,bP,RR,seval];exact bB.run ⟨0,a1,rfl,by simp [dQ],(fun _ _ e=>by cases e),b3,E,d3⟩
   obtain⟨x1,D,rfl⟩:=sQ (o:=F) b3 (by simpa using e5);obtain rfl:=c6 _ _ rfl;simp only[bindR]at h;by_cases z0:0≤ii
   rotate_left
   ·rw[aO z0]at h;cases h
   rw[bF z0]at h;obtain⟨ia,rfl⟩:=iY z0;simp only[cA,A9]at h
   obtain⟨la,a4⟩: ∃la,D.arrs[ia]?=some la:=by
    cases a4:D.arrs[ia]? with
    |none=>rw[a4]at h;cases h
    |some la=>exact⟨la,rfl⟩
   rw[a4]at h;simp only at h;have hl:ia<abs.length:=by rw[E.al];exact(bD.1 a4).1
   have hb:=aC hl;generalize abs[ia]=ba at hb;have f7:=wX abs D.arrs ia ba la hb a4;have e4:=E.a ia ba la hb a4;have i7:=(E.ua la (aW a4)).1;obtain⟨m1,rfl⟩:=iY uw.1;have i9:=uw.2;have S:IntKind.wrap .u64 (m1:Int)=(m1:Int):=by simp [IntKind.wrap,IntKind.signed,IntKind.bits];omega
   have e2:IntKind.wrap .u64 (la.length:Int)=(la.length:Int):=by simp [IntKind.wrap,IntKind.signed,IntKind.bits];omega
   rw[cA]at h;have t:H1 r=_:=E.r;have d6:(Rz.val (m1:Int) D).st=D:=rfl;have d0:nC (Rz.val (m1:Int) D)=0:=rfl;rw[d6,d0]at t;have h9:ba≠r:=E.nr e4;have j0:r≠ba:=fun e=>h9 e.symm;refine aL ?_;simp only[RR];refine aH (aA fun K d=>?_);simp only[J,c9,t,f7,S,e2,RR,seval];refine d _ _ (aX ?_ ?_)<;>intro e6
   ·have hf: ¬m1<la.length:=by have:=aD e6;omega
    rw[aO hf]at h;cases h;refine aA fun K d=>?_;simp only[J,t,RR,seval];refine d _ _ (aA fun K d=>?_);simp only[RR,seval];apply d;refine aP ?_;simp only[aY,aK,bP,RR,seval];exact bB.run ⟨0,a1,rfl,by simp [dQ],(fun _ _ e=>by cases e),(fun _ _ e=>by cases e;decide),fQ.turn E 3 rfl rfl rfl E.rd E.tk,d3.trans (dY.run _)⟩
   have hf:m1<la.length:=by have:=aE e6;omega
   have zf:(m1:Int)<(la.length:Int):=by omega
   rw[bF hf]at h;simp only[a4,bX,bG]at h;obtain⟨y,hy,rfl⟩:=h;have g7:=tH hy;have uy:=(E.ua la (aW a4)).2 y (aW hy);refine aL ?_;simp only[RR];refine aA fun K d=>?_;simp only[J,c9,t,e4,f7,g7,zf,RR,seval];apply d;refine aP ?_;simp only[aY,aK,bP,RR,seval];exact bB.run ⟨y,a1,rfl,uy,(fun _ _ e=>by cases e;rfl),(fun _ _ e=>by cases e),E,d3⟩
 by_cases k4:k=4
 ·subst k4
  simp only[show ¬(4:Int)=1 by decide,show ¬(4:Int)=2 by decide,show ¬(4:Int)=3 by decide,dT,cQ]at h;have a9:=hU ⟨s,4,l.length⟩ (by simp [pI,Ex.kind,Ex.name,Ex.kids]);have z:=a3;have hC:=fun H' g1 g2 g3=>ih.C i rs ow s l st vo H' x wv bk vl o d5 a9 d g1 g2 hu g3 h;obtain⟨HX,e0⟩: ∃X,X=H:=⟨_,rfl⟩;refine bU 232 [.tmp 6] func153 ?_;refine aA fun K d=>?_;simp only[RR,seval];refine aN fun L g=>?_;have N:=cR g t;have B:=N.symm;have Y:=cR g z;have W:=Y.symm;simp only[RR,seval];refine d _ _ (aH (aA fun K d=>?_));simp only[t,B,RR,seval];refine d _ _ (bK ?_);refine aL ?_;simp only[RR];refine aH (aA fun K d=>?_);simp only[RR,seval];refine d _ _ (aQ (aA fun K d=>?_));simp only[RR,seval];refine d _ _ (bK (aA fun K d=>?_));simp only[RR,seval];refine d _ _ (bK (aA fun K d=>?_));simp only[RR,seval];refine d _ _ (bK (aA fun K d=>?_));simp only[RR,seval];refine d _ _ (cM (bN fun F1 M1 G A=>?_));have J:=G 0;have Q:=G 1;have O:=G 5;have f6:=G 6;have T:=A r;have U:=A x;have I:=A L;simp only[t,z,B,W,RR,seval]at J Q O f6 T U I;have hM:=funext A;have P:=(R.new g _).same A;have Z:=(hW.new g _).same A;have a0:dY r vv abs vo vo H M1:=by rw[hM];exact(dY.refl _ _ _ _ _).updN g _
  have t:=T;have z:=U;refine aA fun K d=>?_;simp only[J,Q,O,I,RR,seval];refine mR (hC _ P Z z) (fun _=>trivial) fun w a1 H1 uw c6 b3 E M=>?_;simp only[RR,seval];apply d;refine aP ?_;simp only[aY,aK,bP,RR,seval];exact bB.run ⟨w,a1,rfl,uw,c6,b3,E,a0.trans M⟩
 by_cases k5:k=5
 ·subst k5
  simp only[show ¬(5:Int)=1 by decide,show ¬(5:Int)=2 by decide,show ¬(5:Int)=3 by decide,show ¬(5:Int)=4 by decide,dT,cQ,Option.some.injEq]at h;have i8:=R.rd;have i6:=z.inp;by_cases hf:cx.inp.length≤st.read
  ·have zf:(cx.inp.length:Int)≤(st.read:Int):=by omega
   have e:yE cx st= .val 256 st:=by unfold yE;rw[dO hf]
   rw[e]at h;subst h;refine bU 232 [.tmp 6] func153 ?_;refine aA fun K d=>?_;simp only[RR,seval];refine aN fun L g=>?_;have N:=cR g t;have B:=N.symm;simp only[RR,seval];refine d _ _ (aH (aA fun K d=>?_));simp only[t,B,RR,seval];refine d _ _ (bK ?_);refine aL ?_;simp only[RR];refine aH (aA fun K d=>?_);simp only[RR,seval];refine d _ _ (aQ (aA fun K d=>?_));simp only[RR,seval];refine d _ _ (bK (aA fun K d=>?_));simp only[RR,seval];refine d _ _ (bK (aA fun K d=>?_));simp only[RR,seval];refine d _ _ (bK (aA fun K d=>?_));simp only[RR,seval];refine d _ _ (bK (aA fun K d=>?_));simp only[RR,seval];refine d _ _ (cM (aH (aG fun K d=>?_)));refine bA (fun x=>x≠r∧x≠L) [(0,3),(1,3),(2,3),(3,1),(4,3),(5,3),(6,3),(7,1),(8,3),(9,3)] [] eB (by kernel_rfl) rfl rfl ?_;simp only[dI,t,B,zf,RR,seval];refine d _ _ (cM (aA fun K d=>?_));simp only[RR,seval];apply d;refine aP ?_;simp only[aY,aK,bP,RR,seval];exact bB.run ⟨256,vo,rfl,by simp [dQ],(fun _ _ e=>by cases e;rfl),(fun _ _ e=>by cases e),R.new g _,(dY.refl _ _ _ _ _).updN g _⟩
  have zf: ¬(cx.inp.length:Int)≤(st.read:Int):=by omega
  have hg:=aC (show st.read<cx.inp.length by omega);generalize cx.inp[st.read]=c at hg;have e:yE cx st= .val c.toNat {st with read:=st.read+1}:=by unfold yE;rw[hg]
  rw[e]at h;subst h;have S:IntKind.wrap .i64 ((st.read:Int)+1)=((st.read+1:Nat):Int):=by rw[aU _ (by omega)];omega
  have e3:IntKind.wrap .i64 (((st.read+1:Nat):Int)- 1)=(st.read:Int):=by rw[aU _ (by omega)];omega
  have hc:=UInt8.toNat_lt c;have g8:dQ (c.toNat:Int):=⟨by omega,by omega⟩;have e2:IntKind.wrap .u32 (c.toNat:Int)=(c.toNat:Int):=by simp [IntKind.wrap,IntKind.signed,IntKind.bits];omega
  refine bU 232 [.tmp 6] func153 ?_;refine aA fun K d=>?_;simp only[RR,seval];refine aN fun L g=>?_;have N:=cR g t;have B:=N.symm;simp only[RR,seval];refine d _ _ (aH (aA fun K d=>?_));simp only[t,B,RR,seval];refine d _ _ (bK ?_);refine aL ?_;simp only[RR];refine aH (aA fun K d=>?_);simp only[RR,seval];refine d _ _ (aQ (aA fun K d=>?_));simp only[RR,seval];refine d _ _ (bK (aA fun K d=>?_));simp only[RR,seval];refine d _ _ (bK (aA fun K d=>?_));simp only[RR,seval];refine d _ _ (bK (aA fun K d=>?_));simp only[RR,seval];refine d _ _ (bK (aA fun K d=>?_));simp only[RR,seval];refine d _ _ (cM (aH (aG fun K d=>?_)));refine bA (fun x=>x≠r∧x≠L) [(0,3),(1,3),(2,3),(3,1),(4,3),(5,3),(6,3),(7,1),(8,3),(9,3)] [] eB (by kernel_rfl) rfl rfl ?_;simp only[dI,t,B,zf,RR,seval];refine d _ _ (bK ?_);refine aL ?_;simp only[RR];refine aA fun K d=>?_;simp only[t,B,S,RR,seval];refine d _ _ (aG fun K d=>?_);refine bA (fun x=>x≠r∧x≠L) [(0,3),(1,3),(2,3),(3,1),(4,3),(5,3),(6,3),(7,1),(8,3),(9,3),(10,3),(11,3)] [] eB (by kernel_rfl) rfl rfl ?_;simp only[dI,hg,e2,e3,RR,seval];apply d;refine aP ?_;simp only[aY,aK,bP,RR,seval];exact bB.run ⟨_,vo,rfl,g8,(fun _ _ e=>by cases e;rfl),(fun _ _ e=>by cases e),fQ.turn (st':={st with read:=st.read+1}) (R.new g _) 0 rfl rfl rfl (by show st.read+1≤_;omega) R.tk,((dY.refl _ _ _ _ _).updN g _).trans (dY.run _)⟩
 simp only[aO k1,aO k2,aO k3,aO k4,aO k5]at h
 cases hl0:l[0]? with
 |none=>rw[hl0]at h;cases h
 |some a=>
  simp only[hl0]at h;have b1:=qO hl0;have z:=a3
  obtain⟨F,h1⟩: ∃F,jZ cx n rs ow a st=some F:=by
   cases h1:jZ cx n rs ow a st with
   |none=>
    rw[h1]at h;by_cases k7:k=7
    ·rw[bF k7]at h;cases h
    rw[aO k7]at h
    cases hl1:l[1]? with
    |none=>rw[hl1]at h;cases h
    |some b=>
     simp only[hl1]at h;by_cases k6:k=6
     ·rw[bF k6]at h;cases h
     rw[aO k6]at h;cases h
   |some F=>exact⟨F,rfl⟩
  rw[h1]at h;have a5:=fun H' g1 g2 g3=>hV 0 a hl0 st vo 0 H' F g1 g2 g3 (.inl ⟨rfl,h1⟩);rw[a.row_eq]at a5;obtain⟨HX,e0⟩: ∃X,X=H:=⟨_,rfl⟩;by_cases k7:k=7
  ·subst k7
   simp only[cQ]at h;refine bU 232 [.tmp 6] func153 ?_;refine aA fun K d=>?_;simp only[RR,seval];refine aN fun L g=>?_;have N:=cR g t;have B:=N.symm;have Y:=cR g z;have W:=Y.symm;simp only[RR,seval];refine d _ _ (aH (aA fun K d=>?_));simp only[t,B,RR,seval];refine d _ _ (bK ?_);refine aL ?_;simp only[RR];refine aH (aA fun K d=>?_);simp only[RR,seval];refine d _ _ (aQ (aA fun K d=>?_));simp only[RR,seval];refine d _ _ (bK (aA fun K d=>?_));simp only[RR,seval];refine d _ _ (bK (aA fun K d=>?_));simp only[RR,seval];refine d _ _ (bK (aA fun K d=>?_));simp only[RR,seval];refine d _ _ (bK (aA fun K d=>?_));simp only[RR,seval];refine d _ _ (bK (aA fun K d=>?_));simp only[RR,seval];refine d _ _ (bK (aA fun K d=>?_));simp only[RR,seval];refine d _ _ (cM (bN fun F1 M1 G A=>?_));have J:=G 0;have Q:=G 1;have O:=G 5;have f6:=G 6;have T:=A r;have U:=A x;have I:=A L;simp only[t,z,B,W,RR,seval]at J Q O f6 T U I;have hM:=funext A;have P:=(R.new g _).same A;have Z:=(hW.new g _).same A;have a0:dY r vv abs vo vo H M1:=by rw[hM];exact(dY.refl _ _ _ _ _).updN g _
   have t:=T;have z:=U;refine aA fun K d=>?_;simp only[J,Q,O,I,b1,RR,seval];refine mR (a5 _ P Z z) (fun _=>trivial) fun w a1 H1 uw c6 b3 E M=>?_;simp only[RR,seval];refine aI (V6 _) ?_;simp only[RR,seval];apply d
   have c2: ∃w',(if decide (w=0)=true then(1:Int)else 0)=w'∧dQ w'∧(∀v s,o= .val v s→w'=v)∧(∀e s,o= .fin e s→e≠0)∧nC o=nC F∧o.st=F.st:=by
    refine⟨_,rfl,by split<;>simp [dQ], ?_⟩
    cases F with
    |fin S D=>
     obtain rfl:=Option.some.inj (show some (Rz.fin S D)=some o from h);exact⟨(fun _ _ e=>by cases e),b3,rfl,rfl⟩
    |val x1 D=>
     obtain rfl:=c6 _ _ rfl;obtain rfl:=Option.some.inj (show some (Rz.val (if w=0 then(1:Int)else 0) D)=some o from h);exact⟨(fun v s e=>by cases e;simp),(fun _ _ e=>by cases e),rfl,rfl⟩
   obtain⟨w',g9,i5,g1,g2,g3,g4⟩:=c2;rw[←g3,←g4]at E;refine aP ?_;simp only[aY,aK,bP,RR,seval];exact bB.run ⟨_,a1,by rw[g9],i5,g1,g2,E,a0.trans M⟩
  rw[aO k7]at h
  cases hl1:l[1]? with
  |none=>rw[hl1]at h;cases h
  |some b=>
   simp only[hl1]at h;have d1:=qO hl1;have c8:=fun vo' g6 st' H' r2 g1 g2 g3 g4=>hV 1 b hl1 st' vo' g6 H' r2 g1 g2 g3 g4;rw[b.row_eq]at c8;by_cases k6:k=6
   ·subst k6
    simp only[cQ]at h;refine bU 232 [.tmp 6] func153 ?_;refine aA fun K d=>?_;simp only[RR,seval];refine aN fun L g=>?_;have N:=cR g t;have B:=N.symm;have Y:=cR g z;have W:=Y.symm;simp only[RR,seval];refine d _ _ (aH (aA fun K d=>?_));simp only[t,B,RR,seval];refine d _ _ (bK ?_);refine aL ?_;simp only[RR];refine aH (aA fun K d=>?_);simp only[RR,seval];refine d _ _ (aQ (aA fun K d=>?_));simp only[RR,seval];refine d _ _ (bK (aA fun K d=>?_));simp only[RR,seval];refine d _ _ (bK (aA fun K d=>?_));simp only[RR,seval];refine d _ _ (bK (aA fun K d=>?_));simp only[RR,seval];refine d _ _ (bK (aA fun K d=>?_));simp only[RR,seval];refine d _ _ (bK (aA fun K d=>?_));simp only[RR,seval];refine d _ _ (cM (bN fun F1 M1 G A=>?_));have J:=G 0;have Q:=G 1;have O:=G 5;have f6:=G 6;have T:=A r;have U:=A x;have I:=A L;simp only[t,z,B,W,RR,seval]at J Q O f6 T U I;have hM:=funext A;have P:=(R.new g _).same A;have Z:=(hW.new g _).same A;have a0:dY r vv abs vo vo H M1:=by rw[hM];exact(dY.refl _ _ _ _ _).updN g _
    have t:=T;have z:=U;refine aA fun K d=>?_;simp only[J,Q,O,I,b1,RR,seval];refine mR (a5 _ P Z z) (fun _=>trivial) fun w1 a1 H1 b6 b0 a8 E M=>?_;obtain⟨r2,c1,f3⟩:=RD a8 h;have t:=E.r;have z:=P.keep z (by decide) (by decide) M;have I:=P.keep I (by decide) (by decide) M;have b8:=Z.keep P M;simp only[RR,seval];refine d _ _ (aA fun K d=>?_);simp only[J,Q,O,I,d1,RR,seval];refine mR (c8 _ _ _ _ _ E b8 z c1) (fun _=>trivial) fun w2 a7 H2 b7 c7 b4 a2 b2=>?_;have t:=a2.r;have I:=E.keep I (by decide) (by decide) b2;have d4:=(a0.trans M).trans b2;simp only[RR,seval];refine d _ _ (aH (aA fun K d=>?_));simp only[J,t,RR,seval];refine d _ _ (aX ?_ ?_)<;>intro e7
    ·obtain⟨S,D,g0⟩:=sR (o:=r2) (by simpa using e7)
     have ho:o=r2:=by
      rcases f3 with⟨x1,j2,_,_,h4⟩|⟨e2,s2,_,h3,h4⟩
      ·rw[g0]at h4⊢
       exact(Option.some.inj (show some (Rz.fin S D)=some o from h4)).symm
      rw[h3,h4]
     subst ho;refine aA fun K d=>?_;simp only[RR,seval];apply d;refine aP ?_;simp only[aY,aK,bP,RR,seval];exact bB.run ⟨0,a7,rfl,by simp [dQ],(fun _ _ e=>by rw[g0]at e;cases e),b4,a2,d4⟩
    obtain⟨x2,s2,rfl⟩:=sQ (o:=r2) b4 (by simpa using e7);obtain rfl:=c7 _ _ rfl
    obtain⟨x1,D,rfl,h2,h3⟩: ∃x D,F= .val x D∧jZ cx n rs ow b D=some (.val w2 s2)∧bindR (some (.val w2 s2)) (fun y st=>if(eP op x y).2=0 then some (Rz.val (eP op x y).1 st)else some (.fin 2 st))=some o:=by
     rcases f3 with⟨x1,D,q1,q2,q3⟩|⟨e2,s3,_,q3,_⟩
     ·exact⟨x1,D,q1,q2,q3⟩
     cases q3
    obtain rfl:=b0 _ _ rfl;simp only[bindR]at h3;have hA:=Lu op b6 b7;have uA:=Lh op b6 b7;generalize eP op w1 w2=q at hA uA h3;obtain⟨q1,q2⟩:=q;have t:H2 r=_:=a2.r;have d6:(Rz.val w2 s2).st=s2:=rfl;have d0:nC (Rz.val w2 s2)=0:=rfl;rw[d6,d0]at t;refine aL ?_;simp only[RR];refine aA fun K d=>?_;simp only[O,I,RR,seval];refine aI (hA) ?_;simp only[RR,seval];refine d _ _ (aH (aA fun K d=>?_));simp only[RR,seval];refine d _ _ (aX ?_ ?_)<;>intro e8
    ·rw[aO (show ¬q2=0 by simpa using e8)]at h3
     cases h3;have c3:=And.intro (fQ.turn a2 2 rfl rfl rfl a2.rd a2.tk) (d4.trans (dY.run (some (.rows 11 [[.isl 1 (p.vars.map bT), .isl 2 (p.arrs.map Ar.row), .isl 5 (p.funs.map Fu.row), .str cx.inp, .int .i64 cx.fuel,vv, .isl 1 (fR abs s2.arrs),a7, .int .i64 s2.read, .int .i64 s2.ticks, .int .i64 2]]))));have c4:(∀v s,(Rz.fin 2 s2:Rz Int)= .val v s→q1=v)∧ ∀e s,(Rz.fin 2 s2:Rz Int)= .fin e s→e≠0:=⟨(fun _ _ e=>by cases e),fun _ _ e=>by cases e;decide⟩;refine aM ?_;simp only[J,t,RR,seval];refine aA fun K d=>?_;simp only[RR,seval];apply d;refine aP ?_;simp only[aY,aK,bP,RR,seval];exact bB.run ⟨q1,a7,rfl,uA,c4.1,c4.2,c3.1,c3.2⟩
    rw[bF (show q2=0 by simpa using e8)]at h3;cases h3;have c3:=And.intro a2 d4;have c4:(∀v s,(Rz.val q1 s2:Rz Int)= .val v s→q1=v)∧ ∀e s,(Rz.val q1 s2:Rz Int)= .fin e s→e≠0:=⟨(fun _ _ e=>by cases e;rfl),fun _ _ e=>by cases e⟩;refine aL ?_;simp only[RR];refine aA fun K d=>?_;simp only[RR,seval];apply d;refine aP ?_;simp only[aY,aK,bP,RR,seval];exact bB.run ⟨q1,a7,rfl,uA,c4.1,c4.2,c3.1,c3.2⟩
   rw[aO k6]at h;by_cases k8:k=8
   ·subst k8
    have k8:decide ((8:Int)=8)=true:=rfl;refine bU 232 [.tmp 6] func153 ?_;refine aA fun K d=>?_;simp only[RR,seval];refine aN fun L g=>?_;have N:=cR g t;have B:=N.symm;have Y:=cR g z;have W:=Y.symm;simp only[RR,seval];refine d _ _ (aH (aA fun K d=>?_));simp only[t,B,RR,seval];refine d _ _ (bK ?_);refine aL ?_;simp only[RR];refine aH (aA fun K d=>?_);simp only[RR,seval];refine d _ _ (aQ (aA fun K d=>?_));simp only[RR,seval];refine d _ _ (bK (aA fun K d=>?_));simp only[RR,seval];refine d _ _ (bK (aA fun K d=>?_));simp only[RR,seval];refine d _ _ (bK (aA fun K d=>?_));simp only[RR,seval];refine d _ _ (bK (aA fun K d=>?_));simp only[RR,seval];refine d _ _ (bK (aA fun K d=>?_));simp only[RR,seval];refine d _ _ (bK (aA fun K d=>?_));simp only[RR,seval];refine d _ _ (bK (aA fun K d=>?_));simp only[RR,seval];refine d _ _ (cM (aH (bN fun F1 M1 G A=>?_)));have J:=G 0;have Q:=G 1;have O:=G 5;have f6:=G 6;have T:=A r;have U:=A x;have I:=A L;simp only[t,z,B,W,RR,seval]at J Q O f6 T U I;have hM:=funext A;have P:=(R.new g _).same A;have Z:=(hW.new g _).same A;have a0:dY r vv abs vo vo H M1:=by rw[hM];exact(dY.refl _ _ _ _ _).updN g _
    have t:=T;have z:=U;refine aA fun K d=>?_;simp only[J,Q,O,I,b1,RR,seval];refine mR (a5 _ P Z z) (fun _=>trivial) fun w1 a1 H1 b6 b0 a8 E M=>?_;have t:=E.r;have z:=P.keep z (by decide) (by decide) M;have I:=P.keep I (by decide) (by decide) M;have b8:=Z.keep P M;simp only[RR,seval];refine d _ _ (aX ?_ ?_)<;>intro e9
    ·have a6:w1=0:=aD e9
     have c2:(∀v s,o= .val v s→w1=v)∧(∀e s,o= .fin e s→e≠0)∧nC o=nC F∧o.st=F.st:=by
      cases F with
      |fin S D=>
       obtain rfl:=Option.some.inj (show some (Rz.fin S D)=some o from h);exact⟨(fun _ _ e=>by cases e),a8,rfl,rfl⟩
      |val x1 D=>
       obtain rfl:=b0 _ _ rfl;simp only[bindR]at h;rw[bF (by simp [a6])]at h;cases h;exact⟨(fun v s e=>by cases e;rfl),(fun _ _ e=>by cases e),rfl,rfl⟩
     obtain⟨g1,g2,g3,g4⟩:=c2;rw[←g3,←g4]at E;subst a6;refine aA fun K d=>?_;simp only[RR,seval];apply d;refine aP ?_;simp only[aY,aK,bP,RR,seval];exact bB.run ⟨0,a1,rfl,b6,g1,g2,E,a0.trans M⟩
    have a6: ¬w1=0:=aE e9
    have c1:vJ (nC F) F.st (jZ cx n rs ow b F.st) o:=by
     cases F with
     |fin S D=>
      obtain rfl:=Option.some.inj (show some (Rz.fin S D)=some o from h);exact .inr ⟨a8 _ _ rfl,rfl⟩
     |val x1 D=>
      obtain rfl:=b0 _ _ rfl;simp only[bindR]at h;rw[aO (by simp [a6])]at h;exact .inl ⟨rfl,h⟩
    refine aL ?_;simp only[RR];refine aA fun K d=>?_;simp only[J,Q,O,I,d1,RR,seval];refine mR (c8 _ _ _ _ _ E b8 z c1) (fun _=>trivial) fun w2 a7 H2 b7 c7 b4 a2 b2=>?_;simp only[RR,seval];apply d;refine aP ?_;simp only[aY,aK,bP,RR,seval];exact bB.run ⟨w2,a7,rfl,b7,c7,b4,a2,(a0.trans M).trans b2⟩
   skip;refine bU 232 [.tmp 6] func153 ?_;refine aA fun K d=>?_;simp only[RR,seval];refine aN fun L g=>?_;have N:=cR g t;have B:=N.symm;have Y:=cR g z;have W:=Y.symm;simp only[RR,seval];refine d _ _ (aH (aA fun K d=>?_));simp only[t,B,RR,seval];refine d _ _ (bK ?_);refine aL ?_;simp only[RR];refine aH (aA fun K d=>?_);simp only[RR,seval];refine d _ _ (aQ (aA fun K d=>?_));simp only[k1,RR,seval];refine d _ _ (bK (aA fun K d=>?_));simp only[k2,RR,seval];refine d _ _ (bK (aA fun K d=>?_));simp only[k3,RR,seval];refine d _ _ (bK (aA fun K d=>?_));simp only[k4,RR,seval];refine d _ _ (bK (aA fun K d=>?_));simp only[k5,RR,seval];refine d _ _ (bK (aA fun K d=>?_));simp only[k6,RR,seval];refine d _ _ (bK (aA fun K d=>?_));simp only[k7,RR,seval];refine d _ _ (bK (aA fun K d=>?_));simp only[k8,RR,seval];refine d _ _ (bK ?_);refine aL ?_;simp only[RR];refine bN fun F1 M1 G A=>?_;have J:=G 0;have Q:=G 1;have O:=G 5;have f6:=G 6;have T:=A r;have U:=A x;have I:=A L;simp only[t,z,B,W,RR,seval]at J Q O f6 T U I;have hM:=funext A;have P:=(R.new g _).same A;have Z:=(hW.new g _).same A;have a0:dY r vv abs vo vo H M1:=by rw[hM];exact(dY.refl _ _ _ _ _).updN g _
   have t:=T;have z:=U;refine aA fun K d=>?_;simp only[J,Q,O,I,b1,RR,seval];refine mR (a5 _ P Z z) (fun _=>trivial) fun w1 a1 H1 b6 b0 a8 E M=>?_;have t:=E.r;have z:=P.keep z (by decide) (by decide) M;have I:=P.keep I (by decide) (by decide) M;have b8:=Z.keep P M;simp only[RR,seval];refine d _ _ (aH (aA fun K d=>?_));simp only[RR,seval];refine d _ _ (aX ?_ ?_)<;>intro f2
   ·have a6: ¬w1=0:=by simpa using f2
    have c2:(∀v s,o= .val v s→w1=v)∧(∀e s,o= .fin e s→e≠0)∧nC o=nC F∧o.st=F.st:=by
     cases F with
     |fin S D=>
      obtain rfl:=Option.some.inj (show some (Rz.fin S D)=some o from h);exact⟨(fun _ _ e=>by cases e),a8,rfl,rfl⟩
     |val x1 D=>
      obtain rfl:=b0 _ _ rfl;simp only[bindR]at h;rw[bF (by simp [a6,k8])]at h;cases h;exact⟨(fun v s e=>by cases e;rfl),(fun _ _ e=>by cases e),rfl,rfl⟩
    obtain⟨g1,g2,g3,g4⟩:=c2;rw[←g3,←g4]at E;refine aA fun K d=>?_;simp only[RR,seval];apply d;refine aP ?_;simp only[aY,aK,bP,RR,seval];exact bB.run ⟨w1,a1,rfl,b6,g1,g2,E,a0.trans M⟩
   have a6:w1=0:=by simpa using f2
   have c1:vJ (nC F) F.st (jZ cx n rs ow b F.st) o:=by
    cases F with
    |fin S D=>
     obtain rfl:=Option.some.inj (show some (Rz.fin S D)=some o from h);exact .inr ⟨a8 _ _ rfl,rfl⟩
    |val x1 D=>
     obtain rfl:=b0 _ _ rfl;simp only[bindR]at h;rw[aO (by simp [a6,k8])]at h;exact .inl ⟨rfl,h⟩
   refine aL ?_;simp only[RR];refine aA fun K d=>?_;simp only[J,Q,O,I,d1,RR,seval];refine mR (c8 _ _ _ _ _ E b8 z c1) (fun _=>trivial) fun w2 a7 H2 b7 c7 b4 a2 b2=>?_;simp only[RR,seval];apply d;refine aP ?_;simp only[aY,aK,bP,RR,seval];exact bB.run ⟨w2,a7,rfl,b7,c7,b4,a2,(a0.trans M).trans b2⟩
end
section
variable {p : Pg} {cx : Cx} {r : Nat} {vv : AV} {abs : List Nat} {n : Nat}
theorem Z4 (ih:Bi p cx r vv abs n) (hj:BS p cx) (i:Nat) (B:dE→Bool×Int) (ow:List Int) (e:Sm) (c0:e.kind=1) (st:RS) (vo:AV) (H:Hp) (x:Nat) (wv:AV) (o:Rz (Option Int×List Int)) (he:e.ok) (hU: ∀u∈nD e,UJ p i B u) (a5: ∀u∈fO e.es,UJ p i B u) (c5: ∀u∈eN e.thn,UJ p i B u) (c6: ∀u∈eN e.els,UJ p i B u) (hR:fQ p cx r vv abs st vo 0 H) (hW:iH vv abs vo wv ow H) (G: ∀y∈ow,dQ y) (g:H x=some (.rows 4 [[.int .i64 i,wv, .bool false, .int .u32 0]])) (h:oW cx (n+1) B ow e st=some o):
  pP dR 104 [.ptr 11 r 0 0, .ptr 4 x 0 0, .agg e.row] H (tK p cx r vv abs vo x i wv ow.length H o):=by
 obtain⟨k,s,l,t,u⟩:=e;have C:=hR.r;have b9:=he.es;have d1:=he.thn;have c7:=he.els;simp only[Sm.es,Sm.thn,Sm.els,Sm.kind]at b9 d1 c7 a5 c5 c6 c0;have c2:(Sm.mk k s l t u).row=[.int .i64 k, .str s, .isl 5 (l.map Ex.row), .isl 5 (t.map Sm.row), .isl 5 (u.map Sm.row)]:=Sm.row_eq _;rw[c2];clear c2;have d8:x≠r:=fun e=>by rw[e,C]at g;cases g
 have e0:=d8.symm;simp only[oW]at h;have hV:=fun(j:Nat) (a:Ex) (hj:l[j]?=some a) st vo en H o h3 h4 h5 h6=>ih.V i B ow a st vo en H x wv false 0 o (b9.all _ (aW hj)) (fun u G=>a5 u ((fY (aW hj)).1 u G)) (fun u G=>a5 u ((fY (aW hj)).2 u G)) h3 h4 G h5 h6;have d0:p.av= .agg [.isl 1 (p.vars.map bT), .isl 2 (p.arrs.map Ar.row), .isl 5 (p.funs.map Fu.row)]:=rfl;obtain⟨HX,d9⟩: ∃X,X=H:=⟨_,rfl⟩;subst c0;simp only[cQ]at h;have c3:=hU ⟨s,1,0⟩ (by simp [nD,Sm.kind,Sm.name]);have Q:=c3.f;rw[d0]at Q;simp only at Q;have hk:=c3.k1;generalize eZ p i s=fi at Q hk;obtain⟨kk,b⟩:=fi;simp only at Q hk
 cases hl0:l[0]? with
 |none=>rw[hl0]at h;cases h
 |some a=>
  simp only[hl0]at h;have c8:=qO hl0
  obtain⟨J,E⟩: ∃J,jZ cx n B ow a st=some J:=by
   cases E:jZ cx n B ow a st with
   |none=>rw[E]at h;cases h
   |some J=>exact⟨J,rfl⟩
  rw[E]at h;have b4:=fun H' N O P=>hV 0 a hl0 st vo 0 H' J N O P (.inl ⟨rfl,E⟩);rw[a.row_eq]at b4;refine bU 251 [] func104 ?_;refine aA fun K v=>?_;simp only[RR,seval];refine aN fun b5 S=>?_;have d3:=cR S C;have d6:=d3.symm;have d4:=cR S g;have d7:=d4.symm;simp only[RR,seval];refine v _ _ (aA fun K v=>?_);simp only[RR,seval];refine v _ _ (aQ (aA fun K v=>?_));simp only[RR,seval];refine v _ _ (cM (bN fun F1 M1 a7 L=>?_));have M:=a7 0;have Y:=a7 1;have f5:=a7 5;have gr:=L r;have gx:=L x;have R:=L b5;simp only[C,g,d6,d7,RR,seval]at M Y f5 gr gx R;have hM:=funext L;have Z:=(hR.new S _).same L;have b6:=(hW.new S _).same L;have c9:dY r vv abs vo vo H M1:=by rw[hM];exact(dY.refl _ _ _ _ _).updN S _
  have C:=gr;have g:=gx;refine aA fun K v=>?_;simp only[M,Y,f5,R,c8,RR,seval];refine mR (b4 _ Z b6 g) (fun _=>trivial) fun d T H1 c4 d2 c1 A a3=>?_;have C:=A.r;have g:=Z.keep g (by decide) (by decide) a3;have R:=Z.keep R (by decide) (by decide) a3;have F:=b6.keep Z a3;have a9:=(c9.trans a3).w x wv;simp only[RR,seval];refine v _ _ (aH (aA fun K v=>?_));simp only[M,C,RR,seval];refine v _ _ (aX ?_ ?_)<;>intro b7
  ·obtain⟨e1,c,rfl⟩:=sR (o:=J) (by simpa using b7)
   obtain rfl:=Option.some.inj (show some (Rz.fin e1 c)=some o from h);refine aP ?_;simp only[aY,aK,bP,RR,seval];exact bB.run ⟨ow,false,0,T,rfl,rfl,G,by simp [dQ],(fun _=>rfl),(fun _ _ e=>by cases e),(fun e s h=>by cases h;exact c1 _ _ rfl),g,F,A,a9⟩
  obtain⟨x1,c,rfl⟩:=sQ (o:=J) c1 (by simpa using b7);obtain rfl:=d2 _ _ rfl;have h:(Nr (B s) d ow c).map (fun p=>Rz.val ((none:Option Int),p.1) p.2)=some o:=h;unfold Nr at h;by_cases z:0≤(B s).2
  rotate_left
  ·rw[aO z]at h;cases h
  rw[bF z]at h;have A:fQ p cx r vv abs c T 0 H1:=A;have C:=A.r;refine aL ?_;simp only[RR];refine aG fun K v=>?_;refine bA (fun x=>x≠r∧x≠x∧x≠b5) [(0,3),(1,3),(2,3),(3,1),(4,3),(5,3),(6,3),(7,1),(8,3),(9,1),(10,1),(11,3),(12,3),(13,3),(14,3),(15,3)] [] eB (by kernel_rfl) rfl rfl ?_;simp only[dI,M,Y,f5,C,g,R,RR,seval];refine aI (Q) ?_;simp only[RR,seval];refine v _ _ (aA fun K v=>?_);simp only[RR,seval];apply v
  have b8:(kk=1∧0≤b∧ ∃y,ow[b.toNat]?=some y∧b<(ow.length:Int)∧o= .val (none,ow.set b.toNat d) c)∨(kk=2∧0≤b∧ ∃y,c.vars[b.toNat]?=some y∧b<(c.vars.length:Int)∧o= .val (none,ow) {c with vars:=c.vars.set b.toNat d}):=by
   rcases hk with⟨E,h2⟩|⟨E,h2⟩
   ·rw[h2]at h z
    simp only[cQ]at h z;by_cases I:b.toNat<ow.length
    ·rw[bF I]at h
     exact .inl ⟨E,z,_,aC I,by omega,(Option.some.inj h).symm⟩
    rw[aO I]at h;cases h
   rw[h2]at h z;simp only[cK,dT]at h z;by_cases I:b.toNat<c.vars.length
   ·rw[bF I]at h
    exact .inr ⟨E,z,_,aC I,by omega,(Option.some.inj h).symm⟩
   rw[aO I]at h;cases h
  refine aX ?_ ?_<;>intro a2
  ·rcases b8 with⟨_,z,y,D,zl,rfl⟩|⟨b0,_⟩
   rotate_left
   ·rw[b0]at a2;cases a2
   obtain⟨U,rfl,a0⟩:=F.osl D;have a4:U≠r:=A.nr a0;have b2:U≠x:=fun e=>by rw[e,g]at a0;cases a0
   have d5:r≠U:=fun e=>a4 e.symm;have b3:x≠U:=fun e=>b2 e.symm;have a8:=tH D;refine aM ?_;simp only[Y,g,a0,z,zl,a8,RR,seval];have N:=A.other a4 (F.nv _ _ _ rfl) (F.na _ _ _ rfl) (F.nf _ _ _ rfl) (some (.rows 1 ((ow.map gI).set b.toNat [.int .u32 d])));have O:=F.set b.toNat d;have P:=a9.words (some (.rows 1 ((ow.map gI).set b.toNat [.int .u32 d])));have g4:(ow.set b.toNat d).length=ow.length:=by simp
   have g5: ∀y∈ow.set b.toNat d,dQ y:=fun y D=>by
    rcases pR D with D|rfl
    ·exact G y D
    exact c4
   have a6: ∀q s,Rz.val ((none:Option Int),ow.set b.toNat d) c= .val q s→ow.set b.toNat d=q.2∧false=q.1.isSome∧(0:Int)=q.1.getD 0:=fun q s e=>by cases e;exact⟨rfl,rfl,rfl⟩
   have b1:=(cG H1 (some (.rows 1 ((ow.map gI).set b.toNat [.int .u32 d]))) b3).trans g;simp only[aY,aK,bP,seval];exact bB.run ⟨_,false,0,T,rfl,g4,g5,by simp [dQ],(fun _=>rfl),a6,(fun _ _ e=>by cases e),b1,O,N,P⟩
  rcases b8 with⟨b0,_⟩|⟨_,z,y,D,zl,rfl⟩
  ·rw[b0]at a2;cases a2
  obtain⟨W,rfl,a1⟩:=A.osl D;have a4:W≠r:=A.nr a1;have b2:W≠x:=fun e=>by rw[e,g]at a1;cases a1
  have d5:r≠W:=fun e=>a4 e.symm;have b3:x≠W:=fun e=>b2 e.symm;have a8:=tH D;refine aM ?_;simp only[M,C,a1,z,zl,a8,RR,seval];have N:=fQ.setV A b.toNat d c4;have O:=F.off F.offv (some (.rows 1 ((c.vars.map gI).set b.toNat [.int .u32 d])));have P:=a9.trans ((dY.vars (r:=r) (abs:=abs) (vo:=T) (H:=H1) rfl (some (.rows 1 ((c.vars.map gI).set b.toNat [.int .u32 d])))).w x wv);have g4:ow.length=ow.length:=rfl;have g5:=G;have a6: ∀q s,Rz.val ((none:Option Int),ow) {c with vars:=c.vars.set b.toNat d}= .val q s→ow=q.2∧false=q.1.isSome∧(0:Int)=q.1.getD 0:=fun q s e=>by cases e;exact⟨rfl,rfl,rfl⟩
  have b1:=(cG H1 (some (.rows 1 ((c.vars.map gI).set b.toNat [.int .u32 d]))) b3).trans g;simp only[aY,aK,bP,seval];exact bB.run ⟨_,false,0,T,rfl,g4,g5,by simp [dQ],(fun _=>rfl),a6,(fun _ _ e=>by cases e),b1,O,N,P⟩
theorem Yb (Z:Bi p cx r vv abs n) (D:BS p cx) (i:Nat) (c:dE→Bool×Int) (ow:List Int) (e:Sm) (W:e.kind=6) (st:RS) (vo:AV) (H:Hp) (x:Nat) (wv:AV) (o:Rz (Option Int×List Int)) (G:e.ok) (hU: ∀u∈nD e,UJ p i c u) (B: ∀u∈fO e.es,UJ p i c u) (a0: ∀u∈eN e.thn,UJ p i c u) (a1: ∀u∈eN e.els,UJ p i c u) (R:fQ p cx r vv abs st vo 0 H) (hW:iH vv abs vo wv ow H) (g: ∀y∈ow,dQ y) (d:H x=some (.rows 4 [[.int .i64 i,wv, .bool false, .int .u32 0]])) (h:oW cx (n+1) c ow e st=some o):
  pP dR 104 [.ptr 11 r 0 0, .ptr 4 x 0 0, .agg e.row] H (tK p cx r vv abs vo x i wv ow.length H o):=by
 obtain⟨k,s,l,t,u⟩:=e;have E:=R.r;have I:=G.es;have a8:=G.thn;have a3:=G.els;simp only[Sm.es,Sm.thn,Sm.els,Sm.kind]at I a8 a3 B a0 a1 W;have Y:(Sm.mk k s l t u).row=[.int .i64 k, .str s, .isl 5 (l.map Ex.row), .isl 5 (t.map Sm.row), .isl 5 (u.map Sm.row)]:=Sm.row_eq _;rw[Y];clear Y;have b4:x≠r:=fun e=>by rw[e,E]at d;cases d
 have c0:=b4.symm;simp only[oW]at h;have hV:=fun(j:Nat) (a:Ex) (D:l[j]?=some a) st vo en H o h3 h4 h5 h6=>Z.V i c ow a st vo en H x wv false 0 o (I.all _ (aW D)) (fun u g=>B u ((fY (aW D)).1 u g)) (fun u g=>B u ((fY (aW D)).2 u g)) h3 h4 g h5 h6;have b8:p.av= .agg [.isl 1 (p.vars.map bT), .isl 2 (p.arrs.map Ar.row), .isl 5 (p.funs.map Fu.row)]:=rfl;obtain⟨HX,b7⟩: ∃X,X=H:=⟨_,rfl⟩;subst W;simp only[show ¬(6:Int)=1 by decide,show ¬(6:Int)=2 by decide,show ¬(6:Int)=3 by decide,show ¬(6:Int)=4 by decide,show ¬(6:Int)=5 by decide,dT,cQ]at h;have a9:=hU ⟨s,4,l.length⟩ (by simp [nD,Sm.kind,Sm.name,Sm.es])
 obtain⟨f,A⟩: ∃f,Gi cx n c ow (c s).2 l st=some f:=by
  cases A:Gi cx n c ow (c s).2 l st with
  |none=>rw[A]at h;cases h
  |some f=>exact⟨f,rfl⟩
 rw[A]at h;have hC:=fun H' g1 g2 g3=>Z.C i c ow s l st vo H' x wv false 0 f I a9 B g1 g2 g g3 A;refine bU 251 [] func104 ?_;refine aA fun K b=>?_;simp only[RR,seval];refine aN fun b5 z=>?_;have b0:=cR z E;have b2:=b0.symm;have b1:=cR z d;have b3:=b1.symm;simp only[RR,seval];refine b _ _ (aA fun K b=>?_);simp only[RR,seval];refine b _ _ (aQ (aA fun K b=>?_));simp only[RR,seval];refine b _ _ (bK (aA fun K b=>?_));simp only[RR,seval];refine b _ _ (bK (aA fun K b=>?_));simp only[RR,seval];refine b _ _ (bK (aA fun K b=>?_));simp only[RR,seval];refine b _ _ (bK (aA fun K b=>?_));simp only[RR,seval];refine b _ _ (bK (aA fun K b=>?_));simp only[RR,seval];refine b _ _ (cM (bN fun F1 M1 J v=>?_));have M:=J 0;have N:=J 1;have O:=J 5;have P:=v r;have Q:=v x;have U:=v b5;simp only[E,d,b2,b3,RR,seval]at M N O P Q U;have hM:=funext v;have F:=(R.new z _).same v;have T:=(hW.new z _).same v;have a5:dY r vv abs vo vo H M1:=by rw[hM];exact(dY.refl _ _ _ _ _).updN z _
 have E:=P;have d:=Q;refine aM ?_;simp only[M,N,O,U,RR,seval];refine mR (hC _ F T d) (fun _=>trivial) fun w1 b6 H1 c1 b9 a7 S L=>?_;have d:=F.keep d (by decide) (by decide) L;have a2:=T.keep F L;have a6:=(a5.trans L).w x wv
 have a4:(∀q s,o= .val q s→ow=q.2∧false=q.1.isSome∧(0:Int)=q.1.getD 0)∧(∀e s,o= .fin e s→e≠0)∧o.st=f.st∧nC o=nC f:=by
  cases f with
  |fin e s=>
   obtain rfl:=Option.some.inj (show some (Rz.fin e s)=some o from h);exact⟨(fun _ _ e=>by cases e),(fun _ _ h=>by cases h;exact a7 _ _ rfl),rfl,rfl⟩
  |val y s=>
   obtain rfl:=Option.some.inj (show some (Rz.val ((none:Option Int),ow) s)=some o from h);exact⟨(fun _ _ e=>by cases e;exact⟨rfl,rfl,rfl⟩),(fun _ _ e=>by cases e),rfl,rfl⟩
 obtain⟨q1,q2,q3,q4⟩:=a4;rw[←q3,←q4]at S;simp only[RR,seval];simp only[aY,aK,bP,seval];exact bB.run ⟨ow,false,0,b6,rfl,rfl,g,by simp [dQ],(fun _=>rfl),q1,q2,d,a2,S,a6⟩
theorem E9 (Z:Bi p cx r vv abs n) (v:BS p cx) (i:Nat) (g:dE→Bool×Int) (ow:List Int) (e:Sm) (I:e.kind≠1∧e.kind≠2∧e.kind≠3∧e.kind≠4∧e.kind≠5∧e.kind≠6∧e.kind≠7) (st:RS) (vo:AV) (H:Hp) (x:Nat) (wv:AV) (o:Rz (Option Int×List Int)) (E:e.ok) (hU: ∀u∈nD e,UJ p i g u) (D: ∀u∈fO e.es,UJ p i g u) (R: ∀u∈eN e.thn,UJ p i g u) (S: ∀u∈eN e.els,UJ p i g u) (F:fQ p cx r vv abs st vo 0 H) (T:iH vv abs vo wv ow H) (d: ∀y∈ow,dQ y) (f:H x=some (.rows 4 [[.int .i64 i,wv, .bool false, .int .u32 0]])) (h:oW cx (n+1) g ow e st=some o):
  pP dR 104 [.ptr 11 r 0 0, .ptr 4 x 0 0, .agg e.row] H (tK p cx r vv abs vo x i wv ow.length H o):=by
 obtain⟨k,s,l,t,u⟩:=e;have J:=F.r;have G:=E.es;have W:=E.thn;have U:=E.els;simp only[Sm.es,Sm.thn,Sm.els,Sm.kind]at G W U D R S I;have L:(Sm.mk k s l t u).row=[.int .i64 k, .str s, .isl 5 (l.map Ex.row), .isl 5 (t.map Sm.row), .isl 5 (u.map Sm.row)]:=Sm.row_eq _;rw[L];clear L;have a2:x≠r:=fun e=>by rw[e,J]at f;cases f
 have a6:=a2.symm;simp only[oW]at h;have hV:=fun(j:Nat) (a:Ex) (v:l[j]?=some a) st vo en H o N O P Q=>Z.V i g ow a st vo en H x wv false 0 o (G.all _ (aW v)) (fun u d=>D u ((fY (aW v)).1 u d)) (fun u d=>D u ((fY (aW v)).2 u d)) N O d P Q;have a4:p.av= .agg [.isl 1 (p.vars.map bT), .isl 2 (p.arrs.map Ar.row), .isl 5 (p.funs.map Fu.row)]:=rfl;obtain⟨HX,a3⟩: ∃X,X=H:=⟨_,rfl⟩;obtain⟨k1,z,k3,k4,A,B,C⟩:=I;rw[aO k1,aO z,aO k3,aO k4,aO A,aO B,aO C]at h;cases h;have k1: ¬k=1:=k1;have z: ¬k=2:=z;have k3: ¬k=3:=k3;have k4: ¬k=4:=k4;have A: ¬k=5:=A;have B: ¬k=6:=B;have C: ¬k=7:=C;refine bU 251 [] func104 ?_;refine aA fun K b=>?_;simp only[RR,seval];refine aN fun M c=>?_;have a0:=cR c J;have a5:=a0.symm;have a1:=cR c f;have a7:=a1.symm;simp only[RR,seval];refine b _ _ (aA fun K b=>?_);simp only[RR,seval];refine b _ _ (aQ (aA fun K b=>?_));simp only[k1,RR,seval];refine b _ _ (bK (aA fun K b=>?_));simp only[z,RR,seval];refine b _ _ (bK (aA fun K b=>?_));simp only[k3,RR,seval];refine b _ _ (bK (aA fun K b=>?_));simp only[k4,RR,seval];refine b _ _ (bK (aA fun K b=>?_));simp only[A,RR,seval];refine b _ _ (bK (aA fun K b=>?_));simp only[B,RR,seval];refine b _ _ (bK (aA fun K b=>?_));simp only[C,RR,seval];refine b _ _ (bK ?_);refine aL ?_;simp only[RR];simp only[aY,aK,bP,seval];have Y:=(cG H (some (.rows 5 [[.int .i64 k, .str s, .isl 5 (l.map Ex.row), .isl 5 (t.map Sm.row), .isl 5 (u.map Sm.row)]])) (show x≠M from fun e=>by rw[e,c]at f;cases f)).trans f;exact bB.run ⟨ow,false,0,vo,rfl,rfl,d,by simp [dQ],(fun _=>rfl),(fun _ _ e=>by cases e;exact⟨rfl,rfl,rfl⟩),(fun _ _ e=>by cases e),Y,T.new c _,F.new c _,((dY.refl _ _ _ _ _).updN c _).w x wv⟩
theorem Z5 (ih:Bi p cx r vv abs n) (M:BS p cx) (i:Nat) (z:dE→Bool×Int) (ow:List Int) (e:Sm) (a7:e.kind=7) (st:RS) (vo:AV) (H:Hp) (x:Nat) (wv:AV) (o:Rz (Option Int×List Int)) (he:e.ok) (hU: ∀u∈nD e,UJ p i z u) (Y: ∀u∈fO e.es,UJ p i z u) (b1: ∀u∈eN e.thn,UJ p i z u) (b2: ∀u∈eN e.els,UJ p i z u) (Z:fQ p cx r vv abs st vo 0 H) (hW:iH vv abs vo wv ow H) (A: ∀y∈ow,dQ y) (c:H x=some (.rows 4 [[.int .i64 i,wv, .bool false, .int .u32 0]])) (h:oW cx (n+1) z ow e st=some o):
  pP dR 104 [.ptr 11 r 0 0, .ptr 4 x 0 0, .agg e.row] H (tK p cx r vv abs vo x i wv ow.length H o):=by
 obtain⟨k,s,l,t,u⟩:=e;have I:=Z.r;have a6:=he.es;have c2:=he.thn;have b3:=he.els;simp only[Sm.es,Sm.thn,Sm.els,Sm.kind]at a6 c2 b3 Y b1 b2 a7;have a8:(Sm.mk k s l t u).row=[.int .i64 k, .str s, .isl 5 (l.map Ex.row), .isl 5 (t.map Sm.row), .isl 5 (u.map Sm.row)]:=Sm.row_eq _;rw[a8];clear a8;have c4:x≠r:=fun e=>by rw[e,I]at c;cases c
 have c9:=c4.symm;simp only[oW]at h;have hV:=fun(j:Nat) (a:Ex) (M:l[j]?=some a) st vo en H o h3 h4 h5 h6=>ih.V i z ow a st vo en H x wv false 0 o (a6.all _ (aW M)) (fun u A=>Y u ((fY (aW M)).1 u A)) (fun u A=>Y u ((fY (aW M)).2 u A)) h3 h4 A h5 h6;have c8:p.av= .agg [.isl 1 (p.vars.map bT), .isl 2 (p.arrs.map Ar.row), .isl 5 (p.funs.map Fu.row)]:=rfl;obtain⟨HX,c7⟩: ∃X,X=H:=⟨_,rfl⟩;subst a7;simp only[show ¬(7:Int)=1 by decide,show ¬(7:Int)=2 by decide,show ¬(7:Int)=3 by decide,show ¬(7:Int)=4 by decide,show ¬(7:Int)=5 by decide,show ¬(7:Int)=6 by decide,dT,cQ]at h
 cases hl0:l[0]? with
 |none=>
  rw[hl0]at h;cases h
  have b9:l.length=0:=by
   cases l with
   |nil=>rfl
   |cons a l=>simp at hl0
  have c0:l=[]:=nF b9;subst c0;refine bU 251 [] func104 ?_;refine aA fun K b=>?_;simp only[RR,seval];refine aN fun R d=>?_;have a1:=cR d I;have a9:=a1.symm;have a2:=cR d c;have a3:=a2.symm;simp only[RR,seval];refine b _ _ (aA fun K b=>?_);simp only[RR,seval];refine b _ _ (aQ (aA fun K b=>?_));simp only[RR,seval];refine b _ _ (bK (aA fun K b=>?_));simp only[RR,seval];refine b _ _ (bK (aA fun K b=>?_));simp only[RR,seval];refine b _ _ (bK (aA fun K b=>?_));simp only[RR,seval];refine b _ _ (bK (aA fun K b=>?_));simp only[RR,seval];refine b _ _ (bK (aA fun K b=>?_));simp only[RR,seval];refine b _ _ (bK (aA fun K b=>?_));simp only[RR,seval];refine b _ _ (cM (aA fun K b=>?_));simp only[RR,seval];refine b _ _ (aH (aA fun K b=>?_));simp only[RR,seval];refine b _ _ (bK ?_);refine aL ?_;simp only[RR];refine aM ?_;simp only[c,a3,RR,seval];simp only[aY,aK,bP,seval];have nb:x≠R:=fun e=>by rw[e,d]at c;cases c
  have C:=Z.new d (some (.rows 5 [[.int .i64 7, .str s, .isl 5 ([].map Ex.row), .isl 5 (t.map Sm.row), .isl 5 (u.map Sm.row)]]));have D:=hW.new d (some (.rows 5 [[.int .i64 7, .str s, .isl 5 ([].map Ex.row), .isl 5 (t.map Sm.row), .isl 5 (u.map Sm.row)]]));have a0:=(cG H (some (.rows 5 [[.int .i64 7, .str s, .isl 5 ([].map Ex.row), .isl 5 (t.map Sm.row), .isl 5 (u.map Sm.row)]])) nb).trans c;obtain⟨N,O,P,Q⟩:=C.apart a0 (by decide) (by decide);have E:=fun f g=>(C.other N O P Q f).other N O P Q g;have F:=fun f g=>(D.off (D.h.offsz a0 (by decide)) f).off (D.h.offsz a0 (by decide)) g;have G:=fun f g=>((((dY.refl r vv abs vo H).updN d (some (.rows 5 [[.int .i64 7, .str s, .isl 5 ([].map Ex.row), .isl 5 (t.map Sm.row), .isl 5 (u.map Sm.row)]]))).w x wv).frame f).frame g;exact bB.run ⟨ow,true,0,vo,rfl,rfl,A,by simp [dQ],(fun _=>rfl),(fun _ _ e=>by cases e;exact⟨rfl,rfl,rfl⟩),(fun _ _ e=>by cases e),bO _ _ _,F _ _,E _ _,G _ _⟩
 |some a=>
  simp only[hl0]at h;have b6:=qO hl0
  obtain⟨v,J⟩: ∃v,jZ cx n z ow a st=some v:=by
   cases J:jZ cx n z ow a st with
   |none=>rw[J]at h;cases h
   |some v=>exact⟨v,rfl⟩
  rw[J]at h;have a4:=fun H' T U W=>hV 0 a hl0 st vo 0 H' v T U W (.inl ⟨rfl,J⟩);rw[a.row_eq]at a4;have zl:(0:Int)<(l.length:Int):=by have:=(bD.1 hl0).1;omega
  refine bU 251 [] func104 ?_;refine aA fun K b=>?_;simp only[RR,seval];refine aN fun R d=>?_;have a1:=cR d I;have a9:=a1.symm;have a2:=cR d c;have a3:=a2.symm;simp only[RR,seval];refine b _ _ (aA fun K b=>?_);simp only[RR,seval];refine b _ _ (aQ (aA fun K b=>?_));simp only[RR,seval];refine b _ _ (bK (aA fun K b=>?_));simp only[RR,seval];refine b _ _ (bK (aA fun K b=>?_));simp only[RR,seval];refine b _ _ (bK (aA fun K b=>?_));simp only[RR,seval];refine b _ _ (bK (aA fun K b=>?_));simp only[RR,seval];refine b _ _ (bK (aA fun K b=>?_));simp only[RR,seval];refine b _ _ (bK (aA fun K b=>?_));simp only[RR,seval];refine b _ _ (cM (aA fun K b=>?_));simp only[RR,seval];refine b _ _ (aH (aA fun K b=>?_));simp only[zl,aF,RR,seval];refine b _ _ (cM (bN fun F1 M1 L B=>?_));have f0:=L 0;have S:=L 1;have f5:=L 5;have b0:=L 15;have gr:=B r;have gx:=B x;have a5:=B R;simp only[I,c,a9,a3,RR,seval]at f0 S f5 b0 gr gx a5;have hM:=funext B;have C:=(Z.new d _).same B;have D:=(hW.new d _).same B;have b7:dY r vv abs vo vo H M1:=by rw[hM];exact(dY.refl _ _ _ _ _).updN d _
  have I:=gr;have c:=gx;refine aM ?_;simp only[f0,S,f5,a5,b6,RR,seval];refine mR (a4 _ C D c) (fun _=>trivial) fun w1 c6 H1 c5 c3 c1 E G=>?_;have c:=C.keep c (by decide) (by decide) G;have F:=D.keep C G;have b8:=(b7.trans G).w x wv
  have b4:(∀q s,o= .val q s→ow=q.2∧true=q.1.isSome∧w1=q.1.getD 0)∧(∀e s,o= .fin e s→e≠0)∧o.st=v.st∧nC o=nC v:=by
   cases v with
   |fin e s=>
    obtain rfl:=Option.some.inj (show some (Rz.fin e s)=some o from h);exact⟨(fun _ _ e=>by cases e),(fun _ _ h=>by cases h;exact c1 _ _ rfl),rfl,rfl⟩
   |val y s=>
    obtain rfl:=c3 _ _ rfl;obtain rfl:=Option.some.inj (show some (Rz.val (some w1,ow) s)=some o from h);exact⟨(fun _ _ e=>by cases e;exact⟨rfl,rfl,rfl⟩),(fun _ _ e=>by cases e),rfl,rfl⟩
  obtain⟨N,O,P,Q⟩:=b4;rw[←P,←Q]at E;obtain⟨p1,p2,p3,p4⟩:=E.apart c (by decide) (by decide);simp only[RR,seval];refine aM ?_;simp only[S,c,RR,seval];simp only[aY,aK,bP,seval];have T:=fun f g=>(E.other p1 p2 p3 p4 f).other p1 p2 p3 p4 g;have U:=fun f g=>(F.off (F.h.offsz c (by decide)) f).off (F.h.offsz c (by decide)) g;have W:=fun f g=>(b8.frame f).frame g;exact bB.run ⟨ow,true,w1,c6,rfl,rfl,A,c5,(fun h=>by cases h),N,O,bO _ _ _,U _ _,T _ _,W _ _⟩
end
section
variable {p : Pg} {cx : Cx} {r : Nat} {vv : AV} {abs : List Nat} {n : Nat}
theorem Xy (ih:Bi p cx r vv abs n) (hj:BS p cx) (i:Nat) (F:dE→Bool×Int) (ow:List Int) (e:Sm) (c1:e.kind=2) (st:RS) (vo:AV) (H:Hp) (x:Nat) (wv:AV) (o:Rz (Option Int×List Int)) (he:e.ok) (hU: ∀u∈nD e,UJ p i F u) (a6: ∀u∈fO e.es,UJ p i F u) (d0: ∀u∈eN e.thn,UJ p i F u) (d1: ∀u∈eN e.els,UJ p i F u) (hR:fQ p cx r vv abs st vo 0 H) (hW:iH vv abs vo wv ow H) (D: ∀y∈ow,dQ y) (g:H x=some (.rows 4 [[.int .i64 i,wv, .bool false, .int .u32 0]])) (h:oW cx (n+1) F ow e st=some o):
  pP dR 104 [.ptr 11 r 0 0, .ptr 4 x 0 0, .agg e.row] H (tK p cx r vv abs vo x i wv ow.length H o):=by
 obtain⟨k,s,l,t,u⟩:=e;have A:=hR.r;have b9:=he.es;have e4:=he.thn;have d4:=he.els;simp only[Sm.es,Sm.thn,Sm.els,Sm.kind]at b9 e4 d4 a6 d0 d1 c1;have c3:(Sm.mk k s l t u).row=[.int .i64 k, .str s, .isl 5 (l.map Ex.row), .isl 5 (t.map Sm.row), .isl 5 (u.map Sm.row)]:=Sm.row_eq _;rw[c3];clear c3;have c7:x≠r:=fun e=>by rw[e,A]at g;cases g
 have g5:=c7.symm;simp only[oW]at h;have hV:=fun(j:Nat) (a:Ex) (hj:l[j]?=some a) st vo en H o c M h5 h6=>ih.V i F ow a st vo en H x wv false 0 o (b9.all _ (aW hj)) (fun u D=>a6 u ((fY (aW hj)).1 u D)) (fun u D=>a6 u ((fY (aW hj)).2 u D)) c M D h5 h6;have e0:p.av= .agg [.isl 1 (p.vars.map bT), .isl 2 (p.arrs.map Ar.row), .isl 5 (p.funs.map Fu.row)]:=rfl;obtain⟨HX,f7⟩: ∃X,X=H:=⟨_,rfl⟩;subst c1;simp only[show ¬(2:Int)=1 by decide,dT,cQ]at h;have c4:=hU ⟨s,3,0⟩ (by simp [nD,Sm.kind,Sm.name]);have S:=c4.f;rw[e0]at S;simp only at S;have hk:=c4.k3;generalize eZ p i s=fi at S hk;obtain⟨kk,ii⟩:=fi;simp only at S hk;obtain⟨rfl,e3⟩:=hk;rw[e3]at h
 cases hl0:l[0]? with
 |none=>rw[hl0]at h;cases h
 |some a=>
 cases hl1:l[1]? with
 |none=>rw[hl0,hl1]at h;cases h
 |some b=>
  simp only[hl0,hl1]at h;have d5:=qO hl0;have d6:=qO hl1
  obtain⟨Q,Z⟩: ∃Q,jZ cx n F ow a st=some Q:=by
   cases Z:jZ cx n F ow a st with
   |none=>rw[Z]at h;cases h
   |some Q=>exact⟨Q,rfl⟩
  rw[Z]at h;have b1:=fun H' g1 g2 g3=>hV 0 a hl0 st vo 0 H' Q g1 g2 g3 (.inl ⟨rfl,Z⟩);rw[a.row_eq]at b1;have b2:=fun vo' c9 f4 H' r2 g1 g2 g3 g4=>hV 1 b hl1 f4 vo' c9 H' r2 g1 g2 g3 g4;rw[b.row_eq]at b2;refine bU 251 [] func104 ?_;refine aA fun K d=>?_;simp only[RR,seval];refine aN fun b5 W=>?_;have e7:=cR W A;have c5:=e7.symm;have e8:=cR W g;have c6:=e8.symm;simp only[RR,seval];refine d _ _ (aA fun K d=>?_);simp only[RR,seval];refine d _ _ (aQ (aA fun K d=>?_));simp only[RR,seval];refine d _ _ (bK (aA fun K d=>?_));simp only[RR,seval];refine d _ _ (cM (aG fun K d=>?_));refine bA (fun x=>x≠r∧x≠x∧x≠b5) [(0,3),(1,3),(2,3),(3,1),(4,3),(5,3),(6,3),(7,1),(8,3),(9,1),(10,1),(11,3),(12,3),(13,3),(14,3),(15,3)] [] eB (by kernel_rfl) rfl rfl ?_;simp only[dI,A,g,c5,c6,RR,seval];refine aI (S) ?_;simp only[RR,seval];refine d _ _ (bN fun F1 M1 a2 N=>?_);have G:=a2 0;have f1:=a2 1;have f5:=a2 5;have a5:=a2 10;have gr:=N r;have gx:=N x;have I:=N b5;simp only[A,g,c5,c6,RR,seval]at G f1 f5 a5 gr gx I;have hM:=funext N;have a0:=(hR.new W _).same N;have b3:=(hW.new W _).same N;have d8:dY r vv abs vo vo H M1:=by rw[hM];exact(dY.refl _ _ _ _ _).updN W _
  have A:=gr;have g:=gx;refine aA fun K d=>?_;simp only[G,f1,f5,I,d5,RR,seval];refine mR (b1 _ a0 b3 g) (fun _=>trivial) fun w1 g7 H1 c8 e5 d9 T a3=>?_;obtain⟨r2,d3,b8⟩:=RD d9 h;have A:=T.r;have g:=a0.keep g (by decide) (by decide) a3;have I:=a0.keep I (by decide) (by decide) a3;have b4:=b3.keep a0 a3;simp only[RR,seval];refine d _ _ (aA fun K d=>?_);simp only[G,f1,f5,I,d6,RR,seval];refine mR (b2 _ _ _ _ _ T b4 g d3) (fun _=>trivial) fun w2 R H2 f6 e6 c2 v a4=>?_;have A:=v.r;have g:=T.keep g (by decide) (by decide) a4;have I:=T.keep I (by decide) (by decide) a4;have U:=b4.keep T a4;have a8:=((d8.trans a3).trans a4).w x wv;simp only[RR,seval];refine d _ _ (aH (aA fun K d=>?_));simp only[G,A,RR,seval];refine d _ _ (aX ?_ ?_)<;>intro b6
  ·obtain⟨Y,J,a9⟩:=sR (o:=r2) (by simpa using b6)
   have ho:o= .fin Y J:=by
    rcases b8 with⟨x1,g6,_,_,M⟩|⟨e2,B,_,c,M⟩
    ·rw[a9]at M
     exact(Option.some.inj (show some (Rz.fin Y J)=some o from M)).symm
    rw[a9]at c;cases c;exact M
   subst ho;subst a9;refine aP ?_;simp only[aY,aK,bP,RR,seval];exact bB.run ⟨ow,false,0,R,rfl,rfl,D,by simp [dQ],(fun _=>rfl),(fun _ _ e=>by cases e),(fun e s h=>by cases h;exact c2 _ _ rfl),g,U,v,a8⟩
  obtain⟨x2,B,rfl⟩:=sQ (o:=r2) c2 (by simpa using b6);obtain rfl:=e6 _ _ rfl
  obtain⟨x1,J,rfl,c⟩: ∃x J,Q= .val x J∧(if 0≤ii then bindR (A9 ii x B) fun j st=>some (Rz.val ((none:Option Int),ow) (Ho ii j w2 st))else none)=some o:=by
   rcases b8 with⟨x1,J,q1,_,q3⟩|⟨e2,s3,_,q3,_⟩
   ·exact⟨x1,J,q1,q3⟩
   cases q3
  obtain rfl:=e5 _ _ rfl;have v:fQ p cx r vv abs B R 0 H2:=v;have A:=v.r;by_cases z0:0≤ii
  rotate_left
  ·rw[aO z0]at c;cases c
  rw[bF z0]at c;obtain⟨P,rfl⟩:=iY z0;simp only[cA,A9]at c
  obtain⟨z,C⟩: ∃z,B.arrs[P]?=some z:=by
   cases C:B.arrs[P]? with
   |none=>rw[C]at c;cases c
   |some z=>exact⟨z,rfl⟩
  rw[C]at c;simp only at c;have hl:P<abs.length:=by rw[v.al];exact(bD.1 C).1
  have O:=aC hl;generalize abs[P]=L at O;have c0:=wX abs B.arrs P L z O C;have a1:=v.a P L z O C;have f8:=(v.ua z (aW C)).1;obtain⟨E,rfl⟩:=iY c8.1;have f9:=c8.2;have Y:IntKind.wrap .u64 (E:Int)=(E:Int):=by simp [IntKind.wrap,IntKind.signed,IntKind.bits];omega
  have e2:IntKind.wrap .u64 (z.length:Int)=(z.length:Int):=by simp [IntKind.wrap,IntKind.signed,IntKind.bits];omega
  rw[cA]at c;have e9:L≠r:=v.nr a1;have g0:r≠L:=fun e=>e9 e.symm;have f2:L≠x:=fun e=>by rw[e,g]at a1;cases a1
  have f3:x≠L:=fun e=>f2 e.symm;have A:=v.r;refine aL ?_;simp only[RR];refine aH (aA fun K d=>?_);simp only[G,a5,A,c0,Y,e2,RR,seval];refine d _ _ (aX ?_ ?_)<;>intro b7
  ·have hf: ¬E<z.length:=by have:=aD b7;omega
   rw[aO hf]at c;cases c;refine aA fun K d=>?_;simp only[G,A,RR,seval];apply d;have b0:=(cG H2 (some (.rows 11 [[.isl 1 (p.vars.map bT), .isl 2 (p.arrs.map Ar.row), .isl 5 (p.funs.map Fu.row), .str cx.inp, .int .i64 cx.fuel,vv, .isl 1 (fR abs B.arrs),R, .int .i64 B.read, .int .i64 B.ticks, .int .i64 3]])) c7).trans g;have a7:=U.off (U.h.offsz v.r (by decide)) (some (.rows 11 [[.isl 1 (p.vars.map bT), .isl 2 (p.arrs.map Ar.row), .isl 5 (p.funs.map Fu.row), .str cx.inp, .int .i64 cx.fuel,vv, .isl 1 (fR abs B.arrs),R, .int .i64 B.read, .int .i64 B.ticks, .int .i64 3]]));refine aP ?_;simp only[aY,aK,bP,RR,seval];exact bB.run ⟨ow,false,0,R,rfl,rfl,D,by simp [dQ],(fun _=>rfl),(fun _ _ e=>by cases e),(fun e s h=>by cases h;decide),b0,a7,fQ.turn v 3 rfl rfl rfl v.rd v.tk,a8.trans ((dY.run _).w x wv)⟩
  have hf:E<z.length:=by have:=aE b7;omega
  have zf:(E:Int)<(z.length:Int):=by omega
  rw[bF hf]at c;simp only[bindR,Option.some.injEq]at c;have d7:=tH (aC hf);refine aL ?_;simp only[RR];refine aM ?_;simp only[G,a5,A,a1,c0,d7,zf,RR,seval];simp only[aY,aK,bP,seval];have b0:=(cG H2 (some (.rows 1 ((z.map gI).set E [.int .u32 w2]))) f3).trans g;have a7:=U.off (U.offa (aW O)) (some (.rows 1 ((z.map gI).set E [.int .u32 w2])));have d2:=fQ.setA v O C E w2 f6;subst c;exact bB.run ⟨ow,false,0,R,rfl,rfl,D,by simp [dQ],(fun _=>rfl),(fun _ _ e=>by cases e;exact⟨rfl,rfl,rfl⟩),(fun _ _ e=>by cases e),b0,a7,d2,a8.trans ((dY.arr (aW O) _).w x wv)⟩
theorem Z6 (ih:Bi p cx r vv abs n) (O:BS p cx) (i:Nat) (B:dE→Bool×Int) (ow:List Int) (e:Sm) (a9:e.kind=3) (st:RS) (vo:AV) (H:Hp) (x:Nat) (wv:AV) (o:Rz (Option Int×List Int)) (Y:e.ok) (hU: ∀u∈nD e,UJ p i B u) (U: ∀u∈fO e.es,UJ p i B u) (b3: ∀u∈eN e.thn,UJ p i B u) (b4: ∀u∈eN e.els,UJ p i B u) (hR:fQ p cx r vv abs st vo 0 H) (hW:iH vv abs vo wv ow H) (A: ∀y∈ow,dQ y) (v:H x=some (.rows 4 [[.int .i64 i,wv, .bool false, .int .u32 0]])) (h:oW cx (n+1) B ow e st=some o):
  pP dR 104 [.ptr 11 r 0 0, .ptr 4 x 0 0, .agg e.row] H (tK p cx r vv abs vo x i wv ow.length H o):=by
 obtain⟨k,s,l,t,u⟩:=e;have f:=hR.r;have a7:=Y.es;have c3:=Y.thn;have b7:=Y.els;simp only[Sm.es,Sm.thn,Sm.els,Sm.kind]at a7 c3 b7 U b3 b4 a9;have R:(Sm.mk k s l t u).row=[.int .i64 k, .str s, .isl 5 (l.map Ex.row), .isl 5 (t.map Sm.row), .isl 5 (u.map Sm.row)]:=Sm.row_eq _;rw[R];clear R;have b2:x≠r:=fun e=>by rw[e,f]at v;cases v
 have d2:=b2.symm;simp only[oW]at h;have hV:=fun(j:Nat) (a:Ex) (O:l[j]?=some a) st vo en H o h3 h4 h5 h6=>ih.V i B ow a st vo en H x wv false 0 o (a7.all _ (aW O)) (fun u A=>U u ((fY (aW O)).1 u A)) (fun u A=>U u ((fY (aW O)).2 u A)) h3 h4 A h5 h6;have d0:p.av= .agg [.isl 1 (p.vars.map bT), .isl 2 (p.arrs.map Ar.row), .isl 5 (p.funs.map Fu.row)]:=rfl;obtain⟨HX,c9⟩: ∃X,X=H:=⟨_,rfl⟩;subst a9;simp only[show ¬(3:Int)=1 by decide,show ¬(3:Int)=2 by decide,dT,cQ]at h
 cases hl0:l[0]? with
 |none=>rw[hl0]at h;cases h
 |some a=>
  simp only[hl0]at h;have b9:=qO hl0
  obtain⟨C,g⟩: ∃C,jZ cx n B ow a st=some C:=by
   cases g:jZ cx n B ow a st with
   |none=>rw[g]at h;cases h
   |some C=>exact⟨C,rfl⟩
  rw[g]at h;have a4:=fun H' T G g3=>hV 0 a hl0 st vo 0 H' C T G g3 (.inl ⟨rfl,g⟩);rw[a.row_eq]at a4;refine bU 251 [] func104 ?_;refine aA fun K c=>?_;simp only[RR,seval];refine aN fun b5 I=>?_;have c5:=cR I f;have c7:=c5.symm;have c6:=cR I v;have c8:=c6.symm;simp only[RR,seval];refine c _ _ (aA fun K c=>?_);simp only[RR,seval];refine c _ _ (aQ (aA fun K c=>?_));simp only[RR,seval];refine c _ _ (bK (aA fun K c=>?_));simp only[RR,seval];refine c _ _ (bK (aA fun K c=>?_));simp only[RR,seval];refine c _ _ (cM (bN fun F1 M1 Z F=>?_));have E:=Z 0;have f1:=Z 1;have f5:=Z 5;have gr:=F r;have gx:=F x;have M:=F b5;simp only[f,v,c7,c8,RR,seval]at E f1 f5 gr gx M;have hM:=funext F;have J:=(hR.new I _).same F;have a5:=(hW.new I _).same F;have c0:dY r vv abs vo vo H M1:=by rw[hM];exact(dY.refl _ _ _ _ _).updN I _
  have f:=gr;have v:=gx;refine aA fun K c=>?_;simp only[E,f1,f5,M,b9,RR,seval];refine mR (a4 _ J a5 v) (fun _=>trivial) fun z S H1 d3 c4 b0 d P=>?_;have f:=d.r;have v:=J.keep v (by decide) (by decide) P;have M:=J.keep M (by decide) (by decide) P;have L:=a5.keep J P;have a0:=(c0.trans P).w x wv;simp only[RR,seval];refine c _ _ (aH (aA fun K c=>?_));simp only[E,f,RR,seval];refine c _ _ (aX ?_ ?_)<;>intro a6
  ·obtain⟨e1,D,rfl⟩:=sR (o:=C) (by simpa using a6)
   obtain rfl:=Option.some.inj (show some (Rz.fin e1 D)=some o from h);refine aP ?_;simp only[aY,aK,bP,RR,seval];exact bB.run ⟨ow,false,0,S,rfl,rfl,A,by simp [dQ],(fun _=>rfl),(fun _ _ e=>by cases e),(fun e s h=>by cases h;exact b0 _ _ rfl),v,L,d,a0⟩
  obtain⟨x1,D,rfl⟩:=sQ (o:=C) b0 (by simpa using a6);obtain rfl:=c4 _ _ rfl;have d:fQ p cx r vv abs D S 0 H1:=d;have f:=d.r;have h:bindR (some (Ge z D)) (fun _ st=>some (Rz.val ((none:Option Int),ow) st))=some o:=h;have a1:=d.o;have d1:=d.ub
  have a2: ∃m,D.out.length=m∧(S= .nsl∧m=0∨ ∃b,S= .osl 1 b m):=⟨_,rfl,by
   rcases a1 with⟨g,h2⟩|⟨b,g,h2⟩
   ·exact .inl ⟨g,by simpa using h2⟩
   exact .inr ⟨b,by simpa using g⟩⟩
  obtain⟨m,hm,a2⟩:=a2
  have hc:((UInt8.ofNat (IntKind.wrap .u8 z).toNat).toNat:Int)=IntKind.wrap .u8 z:=by
   have g:IntKind.wrap .u8 z=z % 256:=by simp [IntKind.wrap,IntKind.signed,IntKind.bits]
   rw[g];have:=Int.emod_nonneg z (show(256:Int)≠0 by decide);have:=Int.emod_lt_of_pos z (show(0:Int)<256 by decide);simp only[UInt8.toNat_ofNat'];omega
  have R:[AV.int .u8 (IntKind.wrap .u8 z)]=rJ (UInt8.ofNat (IntKind.wrap .u8 z).toNat):=by unfold rJ;rw[hc]
  have b1:=v;rcases a2 with⟨rfl,rfl⟩|⟨b,rfl⟩
  all_goals
   refine aL ?_;simp only[RR];refine aH (aA fun K c=>?_);simp only[E,f,RR,seval];refine c _ _ (aX ?_ ?_)<;>intro N
   ·try (cases N;done)
    all_goals
     have zf:65536≤D.out.length:=by have:=aD N;omega
     unfold Ge at h;rw[bF zf]at h;cases h;refine aA fun K c=>?_;simp only[E,f,RR,seval];apply c;have a3:=fun o=>(cG H1 o b2).trans b1;have W:=fun o=>L.off (L.h.offsz d.r (by decide)) o;refine aP ?_;simp only[aY,aK,bP,RR,seval];exact bB.run ⟨ow,false,0,_,rfl,rfl,A,by simp [dQ],(fun _=>rfl),(fun _ _ e=>by cases e),(fun e s h=>by cases h;decide),a3 _,W _,fQ.turn d 4 rfl rfl rfl d.rd d.tk,a0.trans ((dY.run _).w x wv)⟩
   try (cases N;done)
   all_goals
    have zf: ¬65536≤D.out.length:=by first|omega|(have:=aE N;omega)
    unfold Ge at h;rw[aO zf]at h;cases h;refine aL ?_;simp only[RR];refine aM ?_;simp only[E,f,RR,seval];refine dG ?_;simp only[RR,seval];refine jC a1 (by simp only[aF,aJ,aT];omega) (fun _ _=>trivial) fun v' H' Q a8 b8=>?_;have b6:=Q.cells;have c2:=Q.one1;have f:=a8 r _ f (a1.offsz f (by decide) _ _);simp only[b6,c2,bX,List.drop,f,RR,seval];rw[R]at Q;obtain⟨T,G⟩:=d.put (by omega) Q a8 b8;have a3:=d.keep b1 (by decide) (by decide) G;have W:=L.keep d G;have c1:=a0.trans (G.w x wv);simp only[aY,aK,bP];exact bB.run ⟨ow,false,0,v',rfl,rfl,A,by simp [dQ],(fun _=>rfl),(fun _ _ e=>by cases e;exact⟨rfl,rfl,rfl⟩),(fun _ _ e=>by cases e),a3,W,T,c1⟩
theorem JE (ih:Bi p cx r vv abs n) (N:BS p cx) (i:Nat) (d:dE→Bool×Int) (ow:List Int) (e:Sm) (b7:e.kind=4) (st:RS) (vo:AV) (H:Hp) (x:Nat) (wv:AV) (o:Rz (Option Int×List Int)) (he:e.ok) (hU: ∀u∈nD e,UJ p i d u) (Z: ∀u∈fO e.es,UJ p i d u) (a7: ∀u∈eN e.thn,UJ p i d u) (a8: ∀u∈eN e.els,UJ p i d u) (hR:fQ p cx r vv abs st vo 0 H) (hW:iH vv abs vo wv ow H) (g: ∀y∈ow,dQ y) (f:H x=some (.rows 4 [[.int .i64 i,wv, .bool false, .int .u32 0]])) (h:oW cx (n+1) d ow e st=some o):
  pP dR 104 [.ptr 11 r 0 0, .ptr 4 x 0 0, .agg e.row] H (tK p cx r vv abs vo x i wv ow.length H o):=by
 obtain⟨k,s,l,t,u⟩:=e;have E:=hR.r;have b4:=he.es;have c0:=he.thn;have b3:=he.els;simp only[Sm.es,Sm.thn,Sm.els,Sm.kind]at b4 c0 b3 Z a7 a8 b7;have b9:(Sm.mk k s l t u).row=[.int .i64 k, .str s, .isl 5 (l.map Ex.row), .isl 5 (t.map Sm.row), .isl 5 (u.map Sm.row)]:=Sm.row_eq _;rw[b9];clear b9;have c9:x≠r:=fun e=>by rw[e,E]at f;cases f
 have d2:=c9.symm;simp only[oW]at h;have hV:=fun(j:Nat) (a:Ex) (N:l[j]?=some a) st vo en H o h3 h4 h5 h6=>ih.V i d ow a st vo en H x wv false 0 o (b4.all _ (aW N)) (fun u g=>Z u ((fY (aW N)).1 u g)) (fun u g=>Z u ((fY (aW N)).2 u g)) h3 h4 g h5 h6;have d1:p.av= .agg [.isl 1 (p.vars.map bT), .isl 2 (p.arrs.map Ar.row), .isl 5 (p.funs.map Fu.row)]:=rfl;obtain⟨HX,d0⟩: ∃X,X=H:=⟨_,rfl⟩;subst b7;simp only[show ¬(4:Int)=1 by decide,show ¬(4:Int)=2 by decide,show ¬(4:Int)=3 by decide,dT,cQ]at h
 cases hl0:l[0]? with
 |none=>rw[hl0]at h;cases h
 |some a=>
  simp only[hl0]at h;have c3:=qO hl0
  obtain⟨b,J⟩: ∃b,jZ cx n d ow a st=some b:=by
   cases J:jZ cx n d ow a st with
   |none=>rw[J]at h;cases h
   |some b=>exact⟨b,rfl⟩
  rw[J]at h;have a9:=fun H' A B C=>hV 0 a hl0 st vo 0 H' b A B C (.inl ⟨rfl,J⟩);rw[a.row_eq]at a9;refine bU 251 [] func104 ?_;refine aA fun K c=>?_;simp only[RR,seval];refine aN fun b5 D=>?_;have c5:=cR D E;have c7:=c5.symm;have c6:=cR D f;have c8:=c6.symm;simp only[RR,seval];refine c _ _ (aA fun K c=>?_);simp only[RR,seval];refine c _ _ (aQ (aA fun K c=>?_));simp only[RR,seval];refine c _ _ (bK (aA fun K c=>?_));simp only[RR,seval];refine c _ _ (bK (aA fun K c=>?_));simp only[RR,seval];refine c _ _ (bK (aA fun K c=>?_));simp only[RR,seval];refine c _ _ (cM (bN fun F1 M1 a2 v=>?_));have F:=a2 0;have G:=a2 1;have I:=a2 5;have gr:=v r;have gx:=v x;have z:=v b5;simp only[E,f,c7,c8,RR,seval]at F G I gr gx z;have hM:=funext v;have M:=(hR.new D _).same v;have b0:=(hW.new D _).same v;have c4:dY r vv abs vo vo H M1:=by rw[hM];exact(dY.refl _ _ _ _ _).updN D _
  have E:=gr;have f:=gx;refine aA fun K c=>?_;simp only[F,G,I,z,c3,RR,seval];refine mR (a9 _ M b0 f) (fun _=>trivial) fun w1 c2 H1 d3 c1 b8 a0 O=>?_;have E:=a0.r;have f:=M.keep f (by decide) (by decide) O;have z:=M.keep z (by decide) (by decide) O;have b1:=b0.keep M O;have b6:=(c4.trans O).w x wv;simp only[RR,seval];refine c _ _ (aA fun K c=>?_);simp only[RR,seval];refine c _ _ (aX ?_ ?_)<;>intro b2
  ·have a3: ¬w1=0:=by simpa using b2
   have a1:vJ (nC b) b.st (nK cx n d ow t b.st) o:=by
    cases b with
    |fin e1 s1=>
     obtain rfl:=Option.some.inj (show some (Rz.fin e1 s1)=some o from h);exact .inr ⟨b8 _ _ rfl,rfl⟩
    |val x1 s1=>
     obtain rfl:=c1 _ _ rfl;simp only[bindR]at h;rw[aO a3]at h;exact .inl ⟨rfl,h⟩
   refine aM ?_;simp only[F,G,I,z,RR,seval];refine La (ih.L i d ow t b.st c2 (nC b) _ x wv false 0 o c0 a7 a0 b1 g f (by simp [dQ]) (fun _=>rfl) (fun _=>rfl) a1) (fun _=>trivial) fun a4 P a5 a6 H2 A B C R S T U W Y Q=>?_;simp only[RR,seval];simp only[aY,aK,bP,seval];exact bB.run ⟨a4,P,a5,a6,rfl,A,B,C,R,S,T,U,W,Y,b6.trans Q⟩
  have a3:w1=0:=by simpa using b2
  have a1:vJ (nC b) b.st (nK cx n d ow u b.st) o:=by
   cases b with
   |fin e1 s1=>
    obtain rfl:=Option.some.inj (show some (Rz.fin e1 s1)=some o from h);exact .inr ⟨b8 _ _ rfl,rfl⟩
   |val x1 s1=>
    obtain rfl:=c1 _ _ rfl;simp only[bindR]at h;rw[bF a3]at h;exact .inl ⟨rfl,h⟩
  refine aM ?_;simp only[F,G,I,z,RR,seval];refine La (ih.L i d ow u b.st c2 (nC b) _ x wv false 0 o b3 a8 a0 b1 g f (by simp [dQ]) (fun _=>rfl) (fun _=>rfl) a1) (fun _=>trivial) fun a4 P a5 a6 H2 A B C R S T U W Y Q=>?_;simp only[RR,seval];simp only[aY,aK,bP,seval];exact bB.run ⟨a4,P,a5,a6,rfl,A,B,C,R,S,T,U,W,Y,b6.trans Q⟩
end
section
variable {p : Pg} {cx : Cx} {r : Nat} {vv : AV} {abs : List Nat} {n : Nat}
theorem WS {a:Rz Int} {o:Rz (Option Int×List Int)} {w1:Int} {f:List Int} {c:Bool} {g:Int} {K:Int→RS→Option (Rz (Option Int×List Int))} {x i:Nat} {wv b:AV} {H j:Hp} {vo:AV} (C: ∀v s,a= .val v s→w1=v) (A: ∀e s,a= .fin e s→e≠0) (d:bindR (some a) (fun x st=>if x=0 then some (Rz.val ((none:Option Int),f) st)else K x st)=some o) (z:c=false) (B:g=0) (D:w1=0)
  (u:H x=some (.rows 4 [[.int .i64 i,wv, .bool c, .int .u32 g]])) (l:iH vv abs b wv f H) (k:fQ p cx r vv abs a.st b (nC a) H) (t:kP r vv abs vo b x wv j H):
  (∀q s,o= .val q s→f=q.2∧c=q.1.isSome∧g=q.1.getD 0)∧(∀e s,o= .fin e s→e≠0)∧H x=some (.rows 4 [[.int .i64 i,wv, .bool c, .int .u32 g]])∧iH vv abs b wv f H∧fQ p cx r vv abs o.st b (nC o) H∧kP r vv abs vo b x wv j H:=by
 cases a with
 |fin e s=>
  obtain rfl:=Option.some.inj (show some (Rz.fin e s)=some o from d);exact⟨(fun _ _ e=>by cases e),(fun _ _ h=>by cases h;exact A _ _ rfl),u,l,k,t⟩
 |val y s=>
  obtain rfl:=C _ _ rfl;simp only[bindR]at d;rw[bF D]at d;cases d;exact⟨(fun _ _ e=>by cases e;exact⟨rfl,z,B⟩),(fun _ _ e=>by cases e),u,l,k,t⟩
theorem Xx (ih:Bi p cx r vv abs n) (hj:BS p cx) (i:Nat) (f:dE→Bool×Int) (N:List Int) (e:Sm) (e8:e.kind=5) (st:RS) (vo:AV) (H:Hp) (x:Nat) (wv:AV) (o:Rz (Option Int×List Int)) (he:e.ok) (hU: ∀u∈nD e,UJ p i f u) (a5: ∀u∈fO e.es,UJ p i f u) (e0: ∀u∈eN e.thn,UJ p i f u) (h0: ∀u∈eN e.els,UJ p i f u) (hR:fQ p cx r vv abs st vo 0 H) (hW:iH vv abs vo wv N H) (J: ∀y∈N,dQ y) (A:H x=some (.rows 4 [[.int .i64 i,wv, .bool false, .int .u32 0]])) (h:oW cx (n+1) f N e st=some o):
  pP dR 104 [.ptr 11 r 0 0, .ptr 4 x 0 0, .agg e.row] H (tK p cx r vv abs vo x i wv N.length H o):=by
 obtain⟨k,s,l,t,u⟩:=e;have Q:=hR.r;have c9:=he.es;have f3:=he.thn;have i6:=he.els;simp only[Sm.es,Sm.thn,Sm.els,Sm.kind]at c9 f3 i6 a5 e0 h0 e8;have f2:(Sm.mk k s l t u).row=[.int .i64 k, .str s, .isl 5 (l.map Ex.row), .isl 5 (t.map Sm.row), .isl 5 (u.map Sm.row)]:=Sm.row_eq _;rw[f2];clear f2;have j5:x≠r:=fun e=>by rw[e,Q]at A;cases A
 have k2:=j5.symm;simp only[oW]at h;have hV:=fun(j:Nat) (a:Ex) (hj:l[j]?=some a) st vo en H o O h4 h5 h6=>ih.V i f N a st vo en H x wv false 0 o (c9.all _ (aW hj)) (fun u J=>a5 u ((fY (aW hj)).1 u J)) (fun u J=>a5 u ((fY (aW hj)).2 u J)) O h4 J h5 h6;have k0:p.av= .agg [.isl 1 (p.vars.map bT), .isl 2 (p.arrs.map Ar.row), .isl 5 (p.funs.map Fu.row)]:=rfl;obtain⟨HX,c3⟩: ∃X,X=H:=⟨_,rfl⟩;subst e8;simp only[show ¬(5:Int)=1 by decide,show ¬(5:Int)=2 by decide,show ¬(5:Int)=3 by decide,show ¬(5:Int)=4 by decide,dT,cQ]at h
 cases hl0:l[0]? with
 |none=>rw[hl0]at h;cases h
 |some c=>
  simp only[hl0]at h;have j9:=qO hl0
  obtain⟨n',rfl⟩: ∃n',n=n'+1:=by
   cases n with
   |zero=>simp [xT]at h
   |succ n'=>exact⟨n',rfl⟩
  rw[Ym]at h;have c7:=aW hl0;have e2:=fun(N:List Int) (J: ∀y∈N,dQ y) st vo en H o bk vl O h4 h5 h6=>ih.V i f N c st vo en H x wv bk vl o (c9.all _ c7) (fun u J=>a5 u ((fY c7).1 u J)) (fun u J=>a5 u ((fY c7).2 u J)) O h4 J h5 h6;rw[c.row_eq]at e2;obtain⟨w,hw⟩: ∃w,w=N.length:=⟨_,rfl⟩;rw[←hw];refine bU 251 [] func104 ?_;refine aA fun K g=>?_;simp only[RR,seval];refine aN fun b5 b0=>?_;have j2:=cR b0 Q;have j3:=j2.symm;have f7:=cR b0 A;have j4:=f7.symm;simp only[RR,seval];refine g _ _ (aA fun K g=>?_);simp only[RR,seval];refine g _ _ (aQ (aA fun K g=>?_));simp only[RR,seval];refine g _ _ (bK (aA fun K g=>?_));simp only[RR,seval];refine g _ _ (bK (aA fun K g=>?_));simp only[RR,seval];refine g _ _ (bK (aA fun K g=>?_));simp only[RR,seval];refine g _ _ (bK (aA fun K g=>?_));simp only[RR,seval];refine g _ _ (cM (bN fun F1 M1 a2 P=>?_));have f0:=a2 0;have f1:=a2 1;have f5:=a2 5;have gr:=P r;have gx:=P x;have F:=P b5;simp only[Q,A,j3,j4,RR,seval]at f0 f1 f5 gr gx F;have hM:=funext P;have b6:=(hR.new b0 _).same P;have h8:=(hW.new b0 _).same P;have i8:dY r vv abs vo vo H M1:=by rw[hM];exact(dY.refl _ _ _ _ _).updN b0 _
  have Q:=gr;have A:=gx;have hT:=Da hj.cx b6;generalize j6:lP cx st=R at h hT;refine aA fun K g=>?_;simp only[f0,RR,seval];refine Dn hT (fun _=>trivial) fun H1 b9 a1 W=>?_;have Q:=a1.r;have A:=b6.keep A (by decide) (by decide) W;have F:=b6.keep F (by decide) (by decide) W;have a7:=h8.keep b6 W;have i9:=(i8.trans W).w x wv
  have e3:(nC R=0∧false=false∧Ik cx n' f c t N R.st=some o)∨(nC R=0∧false=true∧o= .val (some 0,N) R.st)∨(nC R≠0∧o= .fin (nC R) R.st):=by
   cases R with
   |fin e s=>exact .inr (.inr ⟨b9 _ _ rfl,(Option.some.inj (show some (Rz.fin e s)=some o from h)).symm⟩)
   |val q s=>exact .inl ⟨rfl,rfl,h⟩
  simp only[RR,seval];refine g _ _ (bN fun F2 M2 a2 P=>?_);have g0:=a2 0;have g1:=a2 1;have g5:=a2 5;have gr:=P r;have gx:=P x;have d8:=P b5;simp only[f0,f1,f5,Q,A,F,RR,seval]at g0 g1 g5 gr gx d8;have c4:=funext P;have f0:=g0;have f1:=g1;have f5:=g5;have Q:=gr;have A:=gx;have F:=d8;refine aQ (iP [0,1,5] (n') (fun d fr M=> ∃Z a3 I C G T,d≤n'∧C.length=w∧(∀y∈C,dQ y)∧dQ T∧(G=false→T=0)∧fQ p cx r vv abs Z a3 I M∧iH vv abs a3 wv C M∧M x=some (.rows 4 [[.int .i64 i,wv, .bool G, .int .u32 T]])∧M b5=some (.rows 5 [[.int .i64 5, .str s, .isl 5 (l.map Ex.row), .isl 5 (t.map Sm.row), .isl 5 (u.map Sm.row)]])∧kP r vv abs vo a3 x wv HX M∧((I=0∧G=false∧Ik cx d f c t C Z=some o)∨(I=0∧G=true∧o= .val (some T,C) Z)∨(I≠0∧o= .fin I Z))) ⟨R.st,vo,nC R,N,false,0,aZ _,hw.symm,J,(by simp [dQ]),(fun _=>rfl),(by rw[c4];exact a1),(by rw[c4];exact a7),A,F,(by rw[c4,c3];exact i9),e3⟩ ?_);rintro d F3 M3 ⟨Z,a3,I,C,G,T,e7,c0,b1,c1,a8,a0,b4,A,F,b8,e5⟩ b3 K1 d9;have f0:=(b3 0 rfl).trans f0;have f1:=(b3 1 rfl).trans f1;have f5:=(b3 5 rfl).trans f5;have d6:=bC.refl [0,1,5] F3;clear b3;have Q:=a0.r;clear h e3
  have hA:I=0∧G=false→ ∃B,jZ cx d f C c Z=some B∧bindR (some B) (fun x st=>if x=0 then some (Rz.val ((none:Option Int),C) st)else bindR (nK cx d f C t st) fun r st=>match r.1 with |some v=>some (.val (some v,r.2) st)|none=>xT cx d f r.2 c t st)=some o:=fun⟨E,D⟩=>by
   rcases e5 with⟨_,_,h⟩|⟨_,h,_⟩|⟨h,_⟩
   ·unfold Ik at h
    cases h1:jZ cx d f C c Z with
    |none=>rw[h1]at h;cases h
    |some B=>rw[h1]at h;exact⟨B,rfl,h⟩
   ·rw[D]at h;cases h
   exact absurd E h
  have h7:=fun B (h1:jZ cx d f C c Z=some B) (hen:I=0)=>e2 C b1 Z a3 I _ B G T a0 b4 A (.inl ⟨hen,Yn (Nat.le_succ_of_le e7) h1⟩);have hen:I=0∨ ¬I=0:=by by_cases h:I=0;exact .inl h;exact .inr h
  rcases hen with hen|hen<;>rcases Bool.eq_false_or_eq_true G with hbk|hbk
  all_goals
   refine aH (aA fun K g=>?_);simp only[*,RR,seval]
   all_goals try (obtain⟨B,h1,h2⟩:=hA ⟨hen,hbk⟩;refine mR (h7 B h1 hen) (fun _=>trivial) fun w1 f8 H1 k5 f4 b9 a1 W=>?_;have Q:=a1.r;have f6:=a0.keep A (by decide) (by decide) W;have A:=f6;have h9:=a0.keep F (by decide) (by decide) W;have F:=h9;have a7:=b4.keep a0 W;have d0:=b8.trans (W.w x wv);simp only[RR,seval])
   all_goals
    refine g _ _ (aX ?_ ?_)<;>intro hc
    ·try (cases hc;done)
     all_goals
      have d3:=hc;clear hc;have j1: ¬w1=0:=by simpa using d3
      obtain⟨b,i1,i3⟩: ∃b,vJ (nC B) B.st (nK cx d f C t B.st) b∧((∃x s1,B= .val x s1∧bindR (some b) (fun r st=>match r.1 with |some v=>some (Rz.val (some v,r.2) st)|none=>xT cx d f r.2 c t st)=some o)∨(∃e s,B= .fin e s∧b= .fin e s∧o= .fin e s)):=by
       cases B with
       |fin e s=>exact⟨.fin e s, .inr ⟨b9 e s rfl,rfl⟩, .inr ⟨e,s,rfl,rfl,(Option.some.inj (show some (Rz.fin e s)=some o from h2)).symm⟩⟩
       |val y s=>
        obtain rfl:=f4 _ _ rfl;simp only[bindR]at h2;rw[aO j1]at h2
        cases O:nK cx d f C t s with
        |none=>rw[O]at h2;cases h2
        |some b=>rw[O]at h2;exact⟨b, .inl ⟨rfl,O⟩, .inl ⟨_,s,rfl,h2⟩⟩
      have j8:1≤d:=by
       cases d with
       |zero=>simp [jZ]at h1
       |succ d=>omega
      have i2:vJ (nC B) B.st (nK cx (n'+1) f C t B.st) b:=by
       rcases i1 with⟨E,D⟩|z
       ·exact .inl ⟨E,KC (Nat.le_succ_of_le e7) D⟩
       exact .inr z
      have hL:=ih.L i f C t B.st f8 (nC B) _ x wv G T b f3 e0 a1 a7 b1 A c1 a8 (fun _=>hbk) i2;rw[c0]at hL;refine aL ?_;simp only[RR];refine aQ (aA fun K g=>?_);simp only[*,RR,seval];refine La hL (fun _=>trivial) fun Y U b2 f9 H2 g1 g2 g3 g4 g5 g6 g7 g8 g9 d7=>?_;have Q:=g9.r;have i0:H2 b5=_:=a1.keepW a7 F (by decide) (by decide) f7 d7;have A:=g7;have F:=i0;have e9:=d0.trans d7
      have e6:(nC b=0∧U=false∧xT cx d f Y c t b.st=some o)∨(nC b=0∧U=true∧o= .val (some b2,Y) b.st)∨(nC b≠0∧o= .fin (nC b) b.st):=by
       rcases i3 with⟨y,s1,rfl,O⟩|⟨e,s,rfl,rfl,h4⟩
       ·cases b with
        |fin e s=>exact .inr (.inr ⟨g6 _ _ rfl,(Option.some.inj (show some (Rz.fin e s)=some o from O)).symm⟩)
        |val q s=>
         obtain⟨q1,q2⟩:=q;obtain⟨E,D,z3⟩:=g5 _ _ rfl;simp only at E D z3;subst E
         cases q1 with
         |none=>exact .inl ⟨rfl,D,O⟩
         |some v=>
          simp only[mK]at z3;subst z3;exact .inr (.inl ⟨rfl,D,(Option.some.inj O).symm⟩)
       exact .inr (.inr ⟨g6 _ _ rfl,h4⟩)
      simp only[RR,seval];apply g;have hen2:nC b=0∨ ¬nC b=0:=by by_cases h:nC b=0;exact .inl h;exact .inr h
      rcases hen2 with hen2|hen2<;>rcases Bool.eq_false_or_eq_true U with hbk2|hbk2
      all_goals
       refine aA fun K g=>?_;simp only[*,RR,seval]
       repeat' ((refine cL (fun h=>?_) (fun h=>?_))<;>simp only[*,RR,seval])
       all_goals
        refine g _ _ (aX ?_ ?_)<;>intro e4
        ·try (cases e4;done)
         all_goals
          have hE:xT cx d f Y c t b.st=some o:=by
           rcases e6 with⟨_,_,h⟩|⟨_,h,_⟩|⟨h,_⟩
           ·exact h
           ·rw[hbk2]at h;cases h
           exact absurd hen2 h
          obtain⟨d',i4⟩: ∃d',d=d'+1:=⟨d- 1,by omega⟩;have i5:d- 1=d':=by omega
          rw[i4,Ym]at hE;have a4:=g9;rw[hen2]at a4;have e1:=Da hj.cx a4;generalize j7:lP cx b.st=S at hE e1;refine aM ?_;simp only[f0,RR,seval];refine Dn e1 (fun _=>trivial) fun H3 j0 a6 b7=>?_;have d4:=a4.keep A (by decide) (by decide) b7;have c6:=a4.keep F (by decide) (by decide) b7;have c5:=g8.keep a4 b7;have d1:=e9.trans (b7.w x wv)
          have a9:(nC S=0∧U=false∧Ik cx (d- 1) f c t Y S.st=some o)∨(nC S=0∧U=true∧o= .val (some b2,Y) S.st)∨(nC S≠0∧o= .fin (nC S) S.st):=by
           rw[i5]
           cases S with
           |fin e s=>exact .inr (.inr ⟨j0 _ _ rfl,(Option.some.inj (show some (Rz.fin e s)=some o from hE)).symm⟩)
           |val q s=>exact .inl ⟨rfl,hbk2,hE⟩
          obtain⟨d5,d2⟩: ∃s,s=S.st:=⟨_,rfl⟩;obtain⟨c2,c8⟩: ∃e,e=nC S:=⟨_,rfl⟩;rw[←d2,←c8]at a6 a9;simp only[RR,seval];refine d9 (d- 1) _ _ (by omega) ⟨d5,f9,c2,Y,U,b2,(by omega),g1,g2,g3,g4,a6,c5,d4,c6,d1,a9⟩ (by repeat (first|exact d6|refine bC.upd rfl ?_))
        try (cases e4;done)
        all_goals
         have d4:=A;have c6:=F;have c5:=g8;have a6:=g9;have d1:=e9
         have a9:(nC b=0∧U=false∧Ik cx (d- 1) f c t Y b.st=some o)∨(nC b=0∧U=true∧o= .val (some b2,Y) b.st)∨(nC b≠0∧o= .fin (nC b) b.st):=by
          rcases e6 with⟨E,D,_⟩|z|z
          ·exfalso
           first|exact hen2 E|(rw[hbk2]at D;cases D)
          ·exact .inr (.inl z)
          exact .inr (.inr z)
         obtain⟨d5,d2⟩: ∃s,s=b.st:=⟨_,rfl⟩;obtain⟨c2,c8⟩: ∃e,e=nC b:=⟨_,rfl⟩;rw[←d2,←c8]at a6 a9;refine aL ?_;simp only[RR];refine d9 (d- 1) _ _ (by omega) ⟨d5,f9,c2,Y,U,b2,(by omega),g1,g2,g3,g4,a6,c5,d4,c6,d1,a9⟩ (by repeat (first|exact d6|refine bC.upd rfl ?_))
    try (cases hc;done)
    all_goals
     have d3:=hc;rw[c3]at b8
     try rw[c3]at d0
     refine cH ?_;simp only[RR,seval];simp only[aY,aK,bP,seval]
     first
      |(have hz:w1=0:=by simpa using d3
        have i7:=WS f4 b9 h2 hbk (a8 hbk) hz f6 a7 a1 d0
        exact bB.run ⟨C,G,T,f8,rfl,c0,b1,c1,a8,i7⟩)
      |(rcases e5 with⟨E,D,_⟩|⟨E,D,z3⟩|⟨E,D⟩
        ·exfalso
         first|exact hen E|(rw[hbk]at D;cases D)
        ·subst z3;exact bB.run ⟨C,G,T,a3,rfl,c0,b1,c1,a8,(fun _ _ e=>by cases e;exact⟨rfl,D,rfl⟩),(fun _ _ e=>by cases e),A,b4,(by rw[E]at a0;exact a0),b8⟩
        subst D;exact bB.run ⟨C,G,T,a3,rfl,c0,b1,c1,a8,(fun _ _ e=>by cases e),(fun _ _ h=>by cases h;exact E),A,b4,a0,b8⟩)
theorem Xz (A:Bi p cx r vv abs n) (t:BS p cx) (i:Nat) (a:dE→Bool×Int) (b:List Int) (e:Sm) (st:RS) (vo:AV) (H:Hp) (x:Nat) (wv:AV) (o:Rz (Option Int×List Int)) (l:e.ok) (j: ∀u∈nD e,UJ p i a u) (c: ∀u∈fO e.es,UJ p i a u) (d: ∀u∈eN e.thn,UJ p i a u) (f: ∀u∈eN e.els,UJ p i a u) (g:fQ p cx r vv abs st vo 0 H) (k:iH vv abs vo wv b H) (v: ∀y∈b,dQ y) (z:H x=some (.rows 4 [[.int .i64 i,wv, .bool false, .int .u32 0]])) (h:oW cx (n+1) a b e st=some o):
  pP dR 104 [.ptr 11 r 0 0, .ptr 4 x 0 0, .agg e.row] H (tK p cx r vv abs vo x i wv b.length H o):=by
 by_cases k1:e.kind=1
 ·exact Z4 A t i a b e k1 st vo H x wv o l j c d f g k v z h
 by_cases B:e.kind=2
 ·exact Xy A t i a b e B st vo H x wv o l j c d f g k v z h
 by_cases k3:e.kind=3
 ·exact Z6 A t i a b e k3 st vo H x wv o l j c d f g k v z h
 by_cases k4:e.kind=4
 ·exact JE A t i a b e k4 st vo H x wv o l j c d f g k v z h
 by_cases C:e.kind=5
 ·exact Xx A t i a b e C st vo H x wv o l j c d f g k v z h
 by_cases D:e.kind=6
 ·exact Yb A t i a b e D st vo H x wv o l j c d f g k v z h
 by_cases E:e.kind=7
 ·exact Z5 A t i a b e E st vo H x wv o l j c d f g k v z h
 exact E9 A t i a b e ⟨k1,B,k3,k4,C,D,E⟩ st vo H x wv o l j c d f g k v z h
theorem VY (B:BS p cx): ∀n:Nat,Bi p cx r vv abs n
 |0=>by
  refine⟨?_, ?_, ?_, ?_⟩
  ·intro i j g e st vo D H x wv k t o z b y a c d f h
   rcases h with⟨_,h⟩|⟨u,v⟩
   ·simp [jZ]at h
   exact Ej (n:=0) (fun h=>absurd h u) B.cx i j g e st vo H x wv k t o z b y a c d f (.inr ⟨u,v⟩)
  ·intro i j g s l st vo H x wv k t o A b y a c d f h
   simp [Gi]at h
  ·intro i j g e st vo H x wv o z b u v I a c d f h
   simp [oW]at h
  intro i j g l st vo D H x wv k t o A b a c d f G F E h;rcases h with⟨_,h⟩|⟨u,v⟩
  ·simp [nK]at h
  exact Ei (n:=0) (fun h=>absurd h u) i j g l st vo H x wv k t o A b a c d f G F E (.inr ⟨u,v⟩)
 |n+1=>by
  have C:=VY B n;refine⟨?_, ?_, ?_, ?_⟩
  ·intro i j g e st vo D H x wv k t o z b y a c d f h
   exact Ej (fun _=>C) B.cx i j g e st vo H x wv k t o z b y a c d f h
  ·intro i j g s l st vo H x wv k t o A b y a c d f h
   exact G2 C B i j g s l st vo H x wv k t o A b y a c d f h
  ·intro i j g e st vo H x wv o z b u v I a c d f h
   exact Xz C B i j g e st vo H x wv o z b u v I a c d f h
  intro i j g l st vo D H x wv k t o A b a c d f G F E h;exact Ei (fun _=>C) i j g l st vo H x wv k t o A b a c d f G F E h
end
theorem Ht {p:Pg} (i:p.few) (h:gZ p=0) (j:Nat) (g:Fu) (a:p.funs[j]?=some g) (u:Us) (f:u∈eN g.body):UJ p j (Ij (kI p) (Gv g)) u:=by
 obtain⟨l,k,e,d⟩:=xJ h;simp only[nJ,aV]at e;simp only[sN,aV]at d;have b:=(oD p p.funs 0 e.2 j g a).2;have c:=It p p.funs 0 d.1 j g a;rw[cD,cI]at b c;exact⟨Md p i j (bD.1 a).1 u.name,(O8 a u.name).1,b u f,c u f⟩
theorem Hu {p:Pg} (h:gZ p=0) (g:Fu) (b:p.funs[p.funs.length- 1]?=some g):g.params.length=0:=by
 obtain⟨_,_,_,a⟩:=xJ h;simp only[sN,aV,Iw]at a;have:=a.2;rw[b]at this;simp only[aV,bH]at this;exact this.1.2
theorem XB {p:Pg} (d:LL p) (inp:dE) (j:inp.length≤2000000) (a:Int) (i:iU a):PD (Qq p inp a):=by
 have e:((Qq p inp a).fuel:Int)=if a<0 then 0 else a:=by
  show(((if a<0 then 0 else a).toNat:Nat):Int)=_;split<;>omega
 refine⟨j,by have:=i.2;split at e<;>omega,fun f b=>?_,fun f b=>?_⟩
 ·obtain⟨g,c,rfl⟩:=lI.1 b
  have:=d.fs g c;show g.params.length+g.locs.length≤_;omega
 obtain⟨g,c,rfl⟩:=lI.1 b;exact(d.ok.funs g c).body
theorem Zw (p:Pg) (Z:LL p) (j6: ∀(j:Nat) g,p.funs[j]?=some g→ ∀u∈eN g.body,UJ p j (Ij (kI p) (Gv g)) u) (j2: ∀g,p.funs[p.funs.length- 1]?=some g→g.params.length=0) (inp:dE) (i9:inp.length≤2000000) (S:Int) (i6:iU S) {n:Nat} {e:Int} {b2:dE} {t:Nat} (a4:Nv (Qq p inp S) n p.vars.length (p.arrs.map fun a=>a.size.toNat)=some (e,b2,t)):
  eG dR 18 [p.av, .str inp, .int .i64 S] (SJ e b2 t):=by
 have c7:((Qq p inp S).fuel:Int)=if S<0 then 0 else S:=by
  show(((if S<0 then 0 else S).toNat:Nat):Int)=_;split<;>omega
 have d:=XB Z inp i9 S i6;have hj:BS p (Qq p inp S):=⟨rfl,d,j6,Z.f⟩;have f0:p.funs.length- 1<p.funs.length:=by have:=Z.f1;omega
 have b4:=aC f0;have i8:=Z.fs _ (bZ f0);have j5:=j2 _ b4;generalize p.funs[p.funs.length- 1]=g at b4 i8 j5
 have f4:(Qq p inp S).main=some (Gz (kI p) g):=by
  show(p.funs.map (Gz (kI p)))[(p.funs.map (Gz (kI p))).length- 1]?=_;rw[aF,cT,b4];rfl
 obtain⟨O,c6,X⟩: ∃o,nK (Qq p inp S) n (Ij (kI p) (Gv g)) ([]++List.replicate g.locs.length 0) g.body (RS.init p.vars.length (p.arrs.map fun a=>a.size.toNat))=some o∧Ul o=(e,b2,t):=by
  unfold Nv at a4;rw[f4]at a4;simp only[bX,bG]at a4;have hw:(Gz (kI p) g).words=g.locs.length:=by show g.params.length+g.locs.length=_;omega
  rw[hw]at a4;exact a4
 clear a4 f4;have j0:RS.init p.vars.length (p.arrs.map fun a=>a.size.toNat)=⟨List.replicate p.vars.length 0,p.arrs.map zz,0,[],0⟩:=by simp [RS.init,zz,List.map_map]
 rw[j0]at c6;have hB:=fun(r:Nat) (vv:AV) abs H hR=>Df (vv:=vv) (abs:=abs) (VY (r:=r) hj n) hj (p.funs.length- 1) g b4 [] _ .nsl H .nsl O hR iH.nil (fun y hy=>by cases hy) (by simp) (by omega) c6;have g8:=Z.sz;have l8:=Z.v;have l0:=Z.a;have l2:=Z.f;have l1:=Z.f1;have e2:IntKind.wrap .i64 ((p.funs.length:Int)- 1)=((p.funs.length- 1:Nat):Int):=by rw[aU _ (by omega)];omega
 have e3:decide ((p.funs.length:Int)=0)=false:=bI (by omega);have e4:(4:Int) *(p.vars.length:Int)≤281474976710656:=by omega
 obtain⟨vs,J,fs⟩:=p;simp only at *;obtain⟨cx,e8⟩: ∃cx,cx=Qq ⟨vs,J,fs⟩ inp S:=⟨_,rfl⟩;have i5:cx.inp=inp:=by rw[e8];rfl
 rw[←e8]at c6 hB c7 d;have i0:Pg.av ⟨vs,J,fs⟩= .agg [.isl 1 (vs.map bT), .isl 2 (J.map Ar.row), .isl 5 (fs.map Fu.row)]:=rfl;rw[i0];have l3:=d.inp;refine bU 76 [.cell 6 40] func18 ?_;refine aA fun K G=>?_;simp only[RR,seval];refine aN fun L l6=>?_;simp only[RR,seval];refine aN fun F f9=>?_;have k7:F≠L:=fun e=>by rw[e]at f9;simp only[RR,seval,reduceCtorEq]at f9
 have d5:=k7.symm;simp only[RR,seval];refine G _ _ (aH (aA fun K G=>?_));simp only[d5,e3,aF,RR,seval];refine G _ _ (bK ?_);refine aL ?_;simp only[RR];refine aH (aA fun K G=>?_);simp only[RR,seval];refine G _ _ (bN fun F1 M1 I U=>?_);have f1:=I 1;have f2:=I 2;have N:=I 3;have C:=I 6;have d9:=I 15;have A:=U L;have z:=U F;simp only[d5,RR,seval]at f1 f2 N C d9 A z;refine gP (fun fr M=>bC [1,3,6] F1 fr∧M L=M1 L∧M F=M1 F∧fr 2= .int .i64 (cx.fuel:Int)) (fun k9 e5=>?_) ?_
 ·have d6:=bC.refl [1,3,6] F1
  have d7:M1 L=M1 L:=rfl;have d8:M1 F=M1 F:=rfl;refine eO _ d9 (fun c4=>?_) (fun c4=>?_)
  ·have c8:(cx.fuel:Int)=0:=by rw[c7,bF (aD c4)]
   refine aM ?_;simp only[RR,seval];refine e5 _ _ ⟨(by repeat (first|exact d6|refine bC.upd rfl ?_)),d7,d8,(by rw[c8];rfl)⟩
  have c8:(cx.fuel:Int)=S:=by rw[c7,aO (aE c4)]
  refine aL ?_;simp only[RR];refine e5 _ _ ⟨(by repeat (exact d6)),d7,d8,(by rw[c8];exact f2)⟩
 rintro F2 M2 ⟨Y,V,W,f2⟩;have f1:=(Y 1 rfl).trans f1;have N:=(Y 3 rfl).trans N;have C:=(Y 6 rfl).trans C;have A:=V.trans A;have z:=W.trans z;clear Y;simp only[RR,seval];refine aG fun K G=>?_;refine bA (fun x=>x≠L∧x≠F) [(0,0),(1,3),(2,3),(3,3),(4,1),(5,3),(6,1),(7,3),(8,1),(9,3)] [] eB (by kernel_rfl) rfl rfl ?_;simp only[dI,fP,f1,N,f2,A,d5,e4,aF,RR,seval];refine aN fun Q f5=>?_;have k0:=cR f5 A;have h4:=k0.symm;have k2:=cR f5 z;have h5:=k2.symm;simp only[RR,seval];refine aN fun R a1=>?_;have h3:R≠L:=fun e=>by rw[e]at a1;simp only[A,h4,RR,seval,reduceCtorEq]at a1
 have d4:=h3.symm;have k6:R≠F:=fun e=>by rw[e]at a1;simp only[z,h5,RR,seval,reduceCtorEq]at a1
 have a0:=k6.symm;have k5:R≠Q:=fun e=>by rw[e]at a1;simp only[RR,seval,reduceCtorEq]at a1
 have d3:=k5.symm;simp only[RR,seval];refine G _ _ (aH (aA fun K G=>?_));simp only[RR,seval];refine G _ _ (bN fun F3 M3 I U=>?_);have g3:=I 3;have g6:=I 6;have D:=I 7;have f8:=I 8;have V:=U L;have W:=U F;have T:=U Q;have B:=U R;simp only[N,C,A,z,h4,h5,d4,a0,d3,RR,seval]at g3 g6 D f8 V W T B;have N:=g3;have C:=g6;have A:=V;have z:=W;refine aQ (eT [3,6,7] (J.length) (fun k fr M=>fr 8= .int .i64 (k:Nat)∧M L=M3 L∧M F=M3 F∧M Q=M3 Q∧ ∃va bs,M R=some (.rows 11 [[.isl 1 (vs.map bT), .isl 2 (J.map Ar.row), .isl 5 (fs.map Fu.row), .str inp, .int .i64 cx.fuel, .osl 1 Q vs.length,va, .nsl, .int .i64 0, .int .i64 0, .int .i64 0]])∧Vi L Q bs ((J.take k).map zz) va M) ⟨f8,rfl,rfl,rfl, .nsl,[],B,⟨rfl, .inl ⟨rfl,rfl⟩,(fun i b l h=>by simp at h),List.nodup_nil,(by simp),(by simp),(fun _ _ h=>by cases h),(fun _ _ h=>by cases h),(fun b hb=>by simp at hb)⟩⟩ ?_);rintro k F4 M4 l4 ⟨fx,V,W,a5,va,bs,B,E⟩ Y K0 h8;have N:=(Y 3 rfl).trans N;have C:=(Y 6 rfl).trans C;have D:=(Y 7 rfl).trans D;have f8:=fx;clear fx;have A:=V.trans A;have z:=W.trans z;have T:=a5.trans T;have h6:=bC.refl [3,6,7] F4;have c0:=V;have c1:=W;have b9:=a5;clear Y;refine aH (aA fun K G=>?_);simp only[N,f8,A,aF,RR,seval];refine G _ _ (aX ?_ ?_)<;>intro hc
 ·have b5:k<J.length:=by have:=aD hc;omega
  clear hc;have e9:=aC b5;have g9:J.take (k+1)=J.take k++[J[k]]:=bQ b5;have g0:=g8 _ (bZ b5);have l5:bs.length≤10000:=by rw[E.l,aF,dS];omega
  generalize J[k]=a at e9 g9 g0;have hg:=NU e9;have z0:=g0.1;have z1:(4:Int) *a.size≤281474976710656:=by omega
  refine aL ?_;simp only[RR];refine aH (aQ ?_);have a3:=E.o;have l7:=E.o7;have j3:=E.ov;refine bA (fun x=>x≠L∧x≠R) [(0,3),(1,3),(2,3),(3,3),(4,0),(5,3),(6,1),(7,3),(8,3),(9,3),(10,1),(11,1),(12,2),(13,1),(14,3),(15,3)] [(16,1)] eB (by kernel_rfl) rfl rfl ?_;simp only[dI,fP,N,D,f8,A,B,h3,hg,z0,z1,RR,seval];refine aN fun b8 a2=>?_;have j9:R≠b8:=fun e=>by rw[e,a2]at B;cases B
  have n3:L≠b8:=fun e=>by rw[e,a2]at A;cases A
  simp only[RR,seval];have j8:List.replicate a.size.toNat [AV.int .u32 0]=(zz a).map gI:=by simp [zz,gI]
  have j7:(zz a).length=a.size.toNat:=by simp [zz]
  rw[j8];refine jC (a3.upd a2 _) (by have:=Fg bs ((J.take k).map zz) E.l;rw[this,aF,dS];simp only[aJ,aT];omega) (fun b e=>⟨fun c=>?_,fun c=>?_⟩) fun v' H' b7 b0 i7=>?_
  ·subst c;exact a3.offsz A (by decide) _ _ e
  ·subst c;exact a3.offsz B (by decide) _ _ e
  have i4:=b7.cells;have j4:=b7.one1;have e6:=b0 R _ (by rw[cG _ _ j9];exact B) (a3.offsz B (by decide) _ _);have i2:=b0 L _ (by rw[cG _ _ n3];exact A) (a3.offsz A (by decide) _ _);have i3:=b0 F _ (by rw[cG _ _ (fun e=>by rw[e,a2]at z;cases z)];exact z) (a3.offsz z (by decide) _ _);have i1:=b0 Q _ (by rw[cG _ _ (fun e=>by rw[e,a2]at T;cases T)];exact T) (j3 _ _);have c0:=(i2.trans A.symm).trans c0;have c1:=(i3.trans z.symm).trans c1;have b9:=(i1.trans T.symm).trans b9;rw[←j7]at b7;have h7:=E.snoc (l:=zz a) a2 (by rw[A];exact bY _) (by rw[T];exact bY _) b7 b0 i7 e6 (.rows 11 [[.isl 1 (vs.map bT), .isl 2 (J.map Ar.row), .isl 5 (fs.map Fu.row), .str inp, .int .i64 cx.fuel, .osl 1 Q vs.length,v', .nsl, .int .i64 0, .int .i64 0, .int .i64 0]]);simp only[i4,j4,bX,List.drop,e6,RR,seval];refine aM ?_;simp only[f8,RR,seval];rw[aU _ (by omega)];refine h8 _ _ b5 ⟨by rfl,(by(simp only[d4,aS,seval];exact c0)),(by(simp only[a0,aS,seval];exact c1)),(by(simp only[d3,aS,seval];exact b9)),v',bs++[b8],bO _ _ _,(by rw[g9,cP];exact h7)⟩ (by repeat (first|exact h6|refine bC.upd rfl ?_))
 have j1:k=J.length:=by have:=aE hc;omega
 rw[j1,dV]at E;refine cH ?_;simp only[RR,seval];refine bN fun F5 M5 I U=>?_;have g3:=I 3;have g6:=I 6;have g7:=I 7;have V:=U L;have W:=U F;have a5:=U Q;have e1:=U R;simp only[N,C,D,A,z,T,B,RR,seval]at g3 g6 g7 V W a5 e1;have E:=E.keep (H':=M5) (fun b o hb=>by rw[U];exact hb);have N:=g3;have C:=g6;have D:=g7;have A:=V;have z:=W;have T:=a5;have B:=e1;have h0:M5 R=some (.rows 11 [[AV.isl 1 (vs.map bT), .isl 2 (J.map Ar.row), .isl 5 (fs.map Fu.row), .str inp, .int .i64 cx.fuel, .osl 1 Q vs.length]++va::[.nsl, .int .i64 0, .int .i64 0, .int .i64 0]]):=B;refine iE E.o h0 (fun x d=>?_) (fun x d=>?_) (E.o.offsz B (by decide)) fun FS HS I B b1=>?_
 ·simp only[bJ,bL,dD]at d
  rcases d with rfl|rfl|rfl|rfl|rfl|rfl
  ·exact bS rfl
  ·exact bS rfl
  ·exact bS rfl
  ·exact bS rfl
  ·exact bS rfl
  intro s b n' e';cases e';exact E.ov
 ·simp only[bJ,bL,dD]at d
  rcases d with rfl|rfl|rfl|rfl<;>exact bS rfl
 have N:FS 3= .ptr 3 L 0 0:=(I 3 (by rw[N];exact bS rfl)).trans N;have C:FS 6= .ptr 3 F 0 0:=(I 6 (by rw[C];exact bS rfl)).trans C;have D:FS 7= .ptr 11 R 0 0:=(I 7 (by rw[D];exact bS rfl)).trans D;have A:=b1 L _ _ d4 (E.o.offsz A (by decide)) (fun r P x d=>by simp only[bE]at P;subst P;simp only[bJ,bL,dD]at d;rcases d with rfl|rfl|rfl<;>exact bS rfl) A;have z:=b1 F _ _ a0 (E.o.offsz z (by decide)) (fun r P x d=>by simp only[bE]at P;subst P;simp only[bJ,bL,dD]at d;rcases d with rfl|rfl|rfl<;>exact bS rfl) z;have T:=b1 Q _ _ d3 E.ov (fun r P x d=>by rw[(Bl.1 P).2]at d;simp only[bE]at d;subst d;exact bS rfl) T
 have hR:fQ ⟨vs,J,fs⟩ cx R (.osl 1 Q vs.length) bs ⟨List.replicate vs.length 0,J.map zz,0,[],0⟩ .nsl 0 HS:=by
  refine⟨by rw[i5];exact B, .inr ⟨Q,by simp,by simpa [gI]using T⟩,E.l,fun i b l h1 h2=>?_,E.nd,(fun b hb s n' h=>by cases h;exact E.nv hb), .inl ⟨rfl,rfl⟩,(fun _ _ _ _ _ _ h=>by cases h),(fun b hb s n' h=>by cases h),fun x d=>?_,fun l hl=>?_,by simp,cN _,cN _⟩
  ·have c3:=E.a i b l h1 h2
   exact b1 b _ _ (fun e'=>by rw[e',h0]at c3;cases c3) (E.ob b (aW h1)) (fun r P x d=>by obtain⟨y,_,rfl⟩:=lI.1 P;simp only[gI,bE]at d;subst d;exact bS rfl) c3
  ·rw[(Bl.1 d).2];simp [dQ]
  obtain⟨a,h9,rfl⟩:=lI.1 hl;have:=g8 a h9;refine⟨by simp only[zz,fG];omega,fun x d=>?_⟩;rw[(Bl.1 d).2];simp [dQ]
 have hB:=hB _ _ _ _ hR;clear b1 I h0 T B;refine aA fun K G=>?_;simp only[N,D,A,e2,aF,RR,seval];refine jS hB (fun _=>trivial) fun ae H2 ⟨w,k8,g1,g2,g3,g4,g5,g6⟩=>?_;subst g1;have z:=hR.keepW iH.nil z (by decide) (by decide) a0 g6;have B:=g5.r;simp only[RR,seval];refine G _ _ (aH (aA fun K G=>?_));simp only[D,B,RR,seval];refine G _ _ (aX ?_ ?_)<;>intro e7
 ·have hz:nC O=0:=by simpa using e7
  obtain⟨v0,s0,d2⟩:=sQ (o:=O) g4 hz;have a8:e=1∧b2=O.st.out∧t=O.st.ticks:=by rw[d2]at X⊢;simp only[Ul,Prod.mk.injEq]at X;exact⟨X.1.symm,X.2.1.symm,X.2.2.symm⟩
  refine aM ?_;simp only[D,B,RR,seval];have a6:=fQ.turn (st':=O.st) g5 1 rfl rfl rfl g5.rd g5.tk;have a7:=(cG H2 (some (.rows 11 [[.isl 1 (vs.map bT), .isl 2 (J.map Ar.row), .isl 5 (fs.map Fu.row), .str cx.inp, .int .i64 cx.fuel, .osl 1 Q vs.length, .isl 1 (fR bs O.st.arrs),k8, .int .i64 O.st.read, .int .i64 O.st.ticks, .int .i64 1]])) a0).trans z;have c5:(1:Int)=e:=a8.1.symm;obtain⟨_,d0,d1⟩:=a8;refine fQ.seal a6 fun FT HT a9 B c9=>?_;have C:FT 6= .ptr 3 F 0 0:=(a9 6 (by simp only[aS,C,seval];rfl)).trans (by simp only[aS,C,seval]);have D:FT 7= .ptr 11 R 0 0:=(a9 7 (by simp only[aS,D,seval];rfl)).trans (by simp only[aS,D,seval]);have z:=c9 F _ _ a0 (a6.o.offsz a7 (by decide)) (fun r P x d=>by simp only[bE]at P;subst P;simp only[bJ,bL,dD]at d;rcases d with rfl|rfl|rfl<;>rfl) a7;have c2:=Au O.st.out;refine aG fun K G=>?_;refine bA (fun _=>True) [(0,3),(1,3),(2,3),(3,1),(4,3),(5,3),(6,3),(7,1),(8,3),(9,3),(10,3),(11,3),(12,1),(13,3)] [(14,1)] eB (by kernel_rfl) rfl rfl ?_;simp only[dI,C,D,z,B,c2,RR,seval];apply G;refine aP ?_;simp only[aY,aK,bP,C,RR,seval];refine bB.pure ?_;rw[d0,d1,←c5];rfl
 obtain⟨e0,s0,d2⟩:=sR (o:=O) (by simpa using e7);have a8:e=nC O∧b2=O.st.out∧t=O.st.ticks:=by rw[d2]at X⊢;simp only[Ul,Prod.mk.injEq]at X;exact⟨X.1.symm,X.2.1.symm,X.2.2.symm⟩
 have a6:=g5;have a7:=z;have c5:nC O=e:=a8.1.symm;refine aL ?_;simp only[RR];obtain⟨_,d0,d1⟩:=a8;refine fQ.seal a6 fun FT HT a9 B c9=>?_;have C:FT 6= .ptr 3 F 0 0:=(a9 6 (by simp only[aS,C,seval];rfl)).trans (by simp only[aS,C,seval]);have D:FT 7= .ptr 11 R 0 0:=(a9 7 (by simp only[aS,D,seval];rfl)).trans (by simp only[aS,D,seval]);have z:=c9 F _ _ a0 (a6.o.offsz a7 (by decide)) (fun r P x d=>by simp only[bE]at P;subst P;simp only[bJ,bL,dD]at d;rcases d with rfl|rfl|rfl<;>rfl) a7;have c2:=Au O.st.out;refine aG fun K G=>?_;refine bA (fun _=>True) [(0,3),(1,3),(2,3),(3,1),(4,3),(5,3),(6,3),(7,1),(8,3),(9,3),(10,3),(11,3),(12,1),(13,3)] [(14,1)] eB (by kernel_rfl) rfl rfl ?_;simp only[dI,C,D,z,B,c2,RR,seval];apply G;refine aP ?_;simp only[aY,aK,bP,C,RR,seval];refine bB.pure ?_;rw[d0,d1,←c5];rfl
end Go.Proofs.YtaecpjgmcffliaaGreatDoor
