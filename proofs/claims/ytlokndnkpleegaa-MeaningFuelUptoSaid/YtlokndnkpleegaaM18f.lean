/- Chapter 18, in plain Lean: what a run puts out and counts grows; what more fuel does. -/
import Derived.Test.YtlokndnkpleegaaM18d
set_option linter.unusedSimpArgs false
set_option linter.unusedVariables false
set_option maxRecDepth 10000
namespace Go.Al
/-- what stands behind -/
structure Gw (fuel : Nat) (s s' : RS) : Prop where
  out : s.out <+: s'.out
  t : s.ticks ≤ s'.ticks
  f : s.ticks ≤ fuel → s'.ticks ≤ fuel
theorem Gw.refl (fuel : Nat) (s : RS) : Gw fuel s s := ⟨List.prefix_refl _, Nat.le_refl _, fun h => h⟩
theorem Gw.trans {fuel : Nat} {s s1 s2 : RS} (h : Gw fuel s s1) (h' : Gw fuel s1 s2) : Gw fuel s s2 := ⟨h.out.trans h'.out, Nat.le_trans h.t h'.t, fun x => h'.f (h.f x)⟩
def GwO {α : Type} (fuel : Nat) (s : RS) (x : Option (Rz α)) : Prop := ∀ o, x = some o → Gw fuel s o.st
theorem GwO.none {α : Type} (fuel : Nat) (s : RS) : GwO fuel s (none : Option (Rz α)) := fun _ h => by cases h
theorem GwO.val {α : Type} {fuel : Nat} {s s' : RS} (h : Gw fuel s s') (a : α) : GwO fuel s (some (.val a s')) := fun _ e => by cases e; exact h
theorem GwO.fin {α : Type} {fuel : Nat} {s s' : RS} (h : Gw fuel s s') (a : Int) : GwO fuel s (some (.fin a s' : Rz α)) := fun _ e => by cases e; exact h
theorem GwO.bind {α β : Type} {fuel : Nat} {s : RS} {x : Option (Rz α)} {f : α → RS → Option (Rz β)} (h : GwO fuel s x) (hf : ∀ a s', GwO fuel s' (f a s')) : GwO fuel s (bindR x f) := fun o ho => by
  cases x with
  | none => cases ho
  | some r =>
    have h1 := h r rfl
    cases r with
    | val a s' => exact h1.trans (hf a s' o ho)
    | fin e s' => cases ho; exact h1
theorem GwO.ite {α : Type} {fuel : Nat} {s : RS} {c : Prop} [Decidable c] {x y : Option (Rz α)} (h : GwO fuel s x) (h' : GwO fuel s y) : GwO fuel s (if c then x else y) := by
  split
  · exact h
  · exact h'
theorem tick_gw (cx : Cx) (st : RS) : GwO cx.fuel st (some (tickR cx st)) := by
  unfold tickR
  split
  · exact GwO.fin (Gw.refl _ _) _
  · exact GwO.val (by exact ⟨List.prefix_refl _, Nat.le_succ _, fun _ => by show st.ticks + 1 ≤ _; omega⟩) _
theorem get_gw (cx : Cx) (fuel : Nat) (st : RS) : GwO fuel st (some (getR cx st)) := by
  unfold getR
  split
  · exact GwO.val (by exact ⟨List.prefix_refl _, Nat.le_refl _, fun h => h⟩) _
  · exact GwO.val (Gw.refl _ _) _
theorem put_gw (fuel : Nat) (v : Int) (st : RS) : GwO fuel st (some (putR v st)) := by
  unfold putR
  split
  · exact GwO.fin (Gw.refl _ _) _
  · exact GwO.val (by exact ⟨List.prefix_append _ _, Nat.le_refl _, fun h => h⟩) _
theorem at_gw (fuel : Nat) (i x : Int) (st : RS) : GwO fuel st (atR i x st) := by
  unfold atR
  split
  · exact GwO.none _ _
  · split
    · exact GwO.val (Gw.refl _ _) _
    · exact GwO.fin (Gw.refl _ _) _
theorem set_gw (fuel : Nat) (p : Bool × Int) (v : Int) (ow : List Int) (st : RS) : GwO fuel st ((setR p v ow st).map fun r => Rz.val ((none : Option Int), r.1) r.2) := by
  unfold setR
  split
  · split
    · split
      · exact GwO.val (Gw.refl _ _) _
      · exact GwO.none _ _
    · split
      · exact GwO.val (by exact ⟨List.prefix_refl _, Nat.le_refl _, fun h => h⟩) _
      · exact GwO.none _ _
  · exact GwO.none _ _
structure Grow (cx : Cx) (n : Nat) : Prop where
  E : ∀ rs ow e st, GwO cx.fuel st (evE cx n rs ow e st)
  A : ∀ rs ow l st, GwO cx.fuel st (evA cx n rs ow l st)
  C : ∀ rs ow i l st, GwO cx.fuel st (evC cx n rs ow i l st)
  S : ∀ rs ow e st, GwO cx.fuel st (evS cx n rs ow e st)
  L : ∀ rs ow l st, GwO cx.fuel st (evL cx n rs ow l st)
  W : ∀ rs ow c t st, GwO cx.fuel st (evW cx n rs ow c t st)
theorem grow (cx : Cx) (n : Nat) : Grow cx n := by
  induction n with
  | zero =>
    constructor
    all_goals
      intros
      intro o h
      simp [evE, evA, evC, evS, evL, evW] at h
  | succ n ih =>
    obtain ⟨hE, hA, hC, hS, hL, hW⟩ := ih
    constructor
    · rintro rs ow ⟨k, o, m, s, l⟩ st
      simp only [evE]
      refine GwO.ite (GwO.val (Gw.refl _ _) _) (GwO.ite ?_ (GwO.ite ?_ (GwO.ite (hC _ _ _ _ _) (GwO.ite (get_gw _ _ _) ?_))))
      · cases lookR (rs s) ow st with
        | none => exact GwO.none _ _
        | some v => exact GwO.val (Gw.refl _ _) _
      · cases l[0]? with
        | none => exact GwO.none _ _
        | some a =>
          refine GwO.bind (hE _ _ _ _) fun x st => GwO.ite (GwO.bind (at_gw _ _ _ _) fun j st => ?_) (GwO.none _ _)
          cases (st.arrs[(rs s).2.toNat]?).bind fun l => l[j]? with
          | none => exact GwO.none _ _
          | some v => exact GwO.val (Gw.refl _ _) _
      · cases l[0]? with
        | none => exact GwO.none _ _
        | some a =>
          refine GwO.ite (GwO.bind (hE _ _ _ _) fun _ _ => GwO.val (Gw.refl _ _) _) ?_
          cases l[1]? with
          | none => exact GwO.none _ _
          | some b =>
            refine GwO.ite (GwO.bind (hE _ _ _ _) fun _ _ => GwO.bind (hE _ _ _ _) fun _ _ => GwO.ite (GwO.val (Gw.refl _ _) _) (GwO.fin (Gw.refl _ _) _)) ?_
            exact GwO.bind (hE _ _ _ _) fun _ _ => GwO.ite (GwO.val (Gw.refl _ _) _) (hE _ _ _ _)
    · intro rs ow l st
      cases l with
      | nil => simp only [evA]; exact GwO.val (Gw.refl _ _) _
      | cons e l =>
        simp only [evA]
        exact GwO.bind (hE _ _ _ _) fun _ _ => GwO.bind (hA _ _ _ _) fun _ _ => GwO.val (Gw.refl _ _) _
    · intro rs ow i l st
      simp only [evC]
      refine GwO.ite (GwO.none _ _) ?_
      cases cx.funs[i.toNat]? with
      | none => exact GwO.none _ _
      | some f => exact GwO.ite (GwO.none _ _) (GwO.bind (hA _ _ _ _) fun _ _ => GwO.bind (tick_gw _ _) fun _ _ => GwO.bind (hL _ _ _ _) fun _ _ => GwO.val (Gw.refl _ _) _)
    · rintro rs ow ⟨k, s, l, t, u⟩ st
      simp only [evS]
      refine GwO.ite ?_ (GwO.ite ?_ (GwO.ite ?_ (GwO.ite ?_ (GwO.ite ?_ (GwO.ite ?_ (GwO.ite ?_ (GwO.val (Gw.refl _ _) _)))))))
      · cases l[0]? with
        | none => exact GwO.none _ _
        | some a => exact GwO.bind (hE _ _ _ _) fun _ _ => set_gw _ _ _ _ _
      · cases l[0]? with
        | none => exact GwO.none _ _
        | some a =>
          cases l[1]? with
          | none => exact GwO.none _ _
          | some b => exact GwO.bind (hE _ _ _ _) fun _ _ => GwO.bind (hE _ _ _ _) fun _ st => GwO.ite (GwO.bind (at_gw _ _ _ _) fun _ _ => GwO.val (by exact ⟨List.prefix_refl _, Nat.le_refl _, fun h => h⟩) _) (GwO.none _ _)
      · cases l[0]? with
        | none => exact GwO.none _ _
        | some a => exact GwO.bind (hE _ _ _ _) fun _ _ => GwO.bind (put_gw _ _ _) fun _ _ => GwO.val (Gw.refl _ _) _
      · cases l[0]? with
        | none => exact GwO.none _ _
        | some a => exact GwO.bind (hE _ _ _ _) fun _ _ => GwO.ite (hL _ _ _ _) (hL _ _ _ _)
      · cases l[0]? with
        | none => exact GwO.none _ _
        | some a => exact hW _ _ _ _ _
      · exact GwO.bind (hC _ _ _ _ _) fun _ _ => GwO.val (Gw.refl _ _) _
      · cases l[0]? with
        | none => exact GwO.val (Gw.refl _ _) _
        | some a => exact GwO.bind (hE _ _ _ _) fun _ _ => GwO.val (Gw.refl _ _) _
    · intro rs ow l st
      cases l with
      | nil => simp only [evL]; exact GwO.val (Gw.refl _ _) _
      | cons s l =>
        simp only [evL]
        refine GwO.bind (hS _ _ _ _) fun r st => ?_
        cases r.1 with
        | some v => exact GwO.val (Gw.refl _ _) _
        | none => exact hL _ _ _ _
    · intro rs ow c t st
      simp only [evW]
      refine GwO.bind (tick_gw _ _) fun _ st => GwO.bind (hE _ _ _ _) fun x st => GwO.ite (GwO.val (Gw.refl _ _) _) (GwO.bind (hL _ _ _ _) fun r st => ?_)
      cases r.1 with
      | some v => exact GwO.val (Gw.refl _ _) _
      | none => exact hW _ _ _ _ _
/-! ### more fuel -/
/-- with more fuel: the same end, or that of the fuel, behind which the other run goes on -/
def FuO {α : Type} (F : Nat) (x y : Option (Rz α)) : Prop := ∀ o, x = some o → (match o with
  | .fin e s => (e ≠ 5 ∧ y = some o) ∨ (e = 5 ∧ F ≤ s.ticks ∧ ∀ o', y = some o' → s.out <+: o'.st.out ∧ s.ticks ≤ o'.st.ticks)
  | .val _ _ => y = some o)
section
variable {F F' : Nat}
theorem FuO.none {α : Type} (y : Option (Rz α)) : FuO F none y := fun _ h => by cases h
theorem FuO.val {α : Type} (a : α) (s : RS) : FuO F (some (.val a s)) (some (.val a s)) := fun _ h => by cases h; rfl
theorem FuO.fin {α : Type} {e : Int} (he : e ≠ 5) (s : RS) : FuO F (some (.fin e s : Rz α)) (some (.fin e s)) := fun _ h => by cases h; exact .inl ⟨he, rfl⟩
theorem FuO.same {α : Type} {x : Option (Rz α)} (h : ∀ s, x ≠ some (.fin 5 s)) : FuO F x x := fun o ho => by
  cases o with
  | val a s => exact ho
  | fin e s =>
    refine .inl ⟨fun he => ?_, ho⟩
    subst he
    exact h s ho
theorem FuO.bind {α β : Type} {x y : Option (Rz α)} {f g : α → RS → Option (Rz β)} (h : FuO F x y) (hf : ∀ a s, FuO F (f a s) (g a s)) (hg : ∀ a s, GwO F' s (g a s)) : FuO F (bindR x f) (bindR y g) := fun o ho => by
  cases x with
  | none => cases ho
  | some r =>
    have h1 := h r rfl
    cases r with
    | val a s =>
      simp only at h1
      subst h1
      exact hf a s o ho
    | fin e s =>
      cases ho
      simp only at h1 ⊢
      rcases h1 with ⟨he, rfl⟩ | ⟨he, ht, h2⟩
      · exact .inl ⟨he, rfl⟩
      · refine .inr ⟨he, ht, fun o' ho' => ?_⟩
        cases y with
        | none => cases ho'
        | some r' =>
          have h3 := h2 r' rfl
          cases r' with
          | val a s' =>
            have h4 := hg a s' o' ho'
            simp only [Rz.st] at h3
            exact ⟨h3.1.trans h4.out, Nat.le_trans h3.2 h4.t⟩
          | fin e s' => cases ho'; exact h3
theorem FuO.ite {α : Type} {c : Prop} [Decidable c] {x y x' y' : Option (Rz α)} (h : FuO F x x') (h' : FuO F y y') : FuO F (if c then x else y) (if c then x' else y') := by
  split
  · exact h
  · exact h'
end
structure More (cx cx' : Cx) (n : Nat) : Prop where
  E : ∀ rs ow e st, FuO cx.fuel (evE cx n rs ow e st) (evE cx' n rs ow e st)
  A : ∀ rs ow l st, FuO cx.fuel (evA cx n rs ow l st) (evA cx' n rs ow l st)
  C : ∀ rs ow i l st, FuO cx.fuel (evC cx n rs ow i l st) (evC cx' n rs ow i l st)
  S : ∀ rs ow e st, FuO cx.fuel (evS cx n rs ow e st) (evS cx' n rs ow e st)
  L : ∀ rs ow l st, FuO cx.fuel (evL cx n rs ow l st) (evL cx' n rs ow l st)
  W : ∀ rs ow c t st, FuO cx.fuel (evW cx n rs ow c t st) (evW cx' n rs ow c t st)
theorem tick_fu {cx cx' : Cx} (h : cx.fuel ≤ cx'.fuel) (st : RS) : FuO cx.fuel (some (tickR cx st)) (some (tickR cx' st)) := by
  intro o ho
  unfold tickR at ho
  split at ho
  · cases ho
    refine .inr ⟨rfl, by assumption, fun o' ho' => ?_⟩
    have := tick_gw cx' st o' ho'
    exact ⟨this.out, this.t⟩
  · cases ho
    simp only [tickR]
    rw [if_neg (by omega)]
theorem more {cx cx' : Cx} (hf : cx.fuel ≤ cx'.fuel) (hfun : cx'.funs = cx.funs) (hi : cx'.inp = cx.inp) (n : Nat) : More cx cx' n := by
  induction n with
  | zero =>
    constructor
    all_goals
      intros
      intro o h
      simp [evE, evA, evC, evS, evL, evW] at h
  | succ n ih =>
    obtain ⟨hE, hA, hC, hS, hL, hW⟩ := ih
    obtain ⟨gE, gA, gC, gS, gL, gW⟩ := grow cx' n
    have hget : ∀ st, getR cx' st = getR cx st := fun st => by simp only [getR, hi]
    have hat : ∀ i x st, FuO cx.fuel (atR i x st) (atR i x st) := fun i x st => FuO.same fun s h => by
      unfold atR at h
      split at h
      · cases h
      · split at h <;> cases h
    have hput : ∀ v st, FuO cx.fuel (some (putR v st)) (some (putR v st)) := fun v st => FuO.same fun s h => by
      unfold putR at h
      split at h <;> cases h
    constructor
    · rintro rs ow ⟨k, o, m, s, l⟩ st
      simp only [evE, hget]
      refine FuO.ite (FuO.val _ _) (FuO.ite ?_ (FuO.ite ?_ (FuO.ite (hC _ _ _ _ _) (FuO.ite ?_ ?_))))
      · cases lookR (rs s) ow st with
        | none => exact FuO.none _
        | some v => exact FuO.val _ _
      · cases l[0]? with
        | none => exact FuO.none _
        | some a =>
          refine FuO.bind (F' := cx'.fuel) (hE _ _ _ _) (fun x st => FuO.ite (FuO.bind (F' := cx'.fuel) (hat _ _ _) (fun j st => ?_) fun j st => ?_) (FuO.none _)) fun x st => GwO.ite (GwO.bind (at_gw _ _ _ _) fun j st => ?_) (GwO.none _ _)
          all_goals cases (st.arrs[(rs s).2.toNat]?).bind fun l => l[j]?
          all_goals first | exact FuO.none _ | exact FuO.val _ _ | exact GwO.none _ _ | exact GwO.val (Gw.refl _ _) _
      · exact FuO.same fun s h => by
          unfold getR at h
          split at h <;> cases h
      · cases l[0]? with
        | none => exact FuO.none _
        | some a =>
          refine FuO.ite (FuO.bind (F' := cx'.fuel) (hE _ _ _ _) (fun _ _ => FuO.val _ _) fun _ _ => GwO.val (Gw.refl _ _) _) ?_
          cases l[1]? with
          | none => exact FuO.none _
          | some b =>
            refine FuO.ite (FuO.bind (F' := cx'.fuel) (hE _ _ _ _) (fun _ _ => FuO.bind (F' := cx'.fuel) (hE _ _ _ _) (fun _ _ => FuO.ite (FuO.val _ _) (FuO.fin (by decide) _)) fun _ _ => GwO.ite (GwO.val (Gw.refl _ _) _) (GwO.fin (Gw.refl _ _) _)) fun _ _ => GwO.bind (gE _ _ _ _) fun _ _ => GwO.ite (GwO.val (Gw.refl _ _) _) (GwO.fin (Gw.refl _ _) _)) ?_
            exact FuO.bind (F' := cx'.fuel) (hE _ _ _ _) (fun _ _ => FuO.ite (FuO.val _ _) (hE _ _ _ _)) fun _ _ => GwO.ite (GwO.val (Gw.refl _ _) _) (gE _ _ _ _)
    · intro rs ow l st
      cases l with
      | nil => simp only [evA]; exact FuO.val _ _
      | cons e l =>
        simp only [evA]
        exact FuO.bind (F' := cx'.fuel) (hE _ _ _ _) (fun _ _ => FuO.bind (F' := cx'.fuel) (hA _ _ _ _) (fun _ _ => FuO.val _ _) fun _ _ => GwO.val (Gw.refl _ _) _) fun _ _ => GwO.bind (gA _ _ _ _) fun _ _ => GwO.val (Gw.refl _ _) _
    · intro rs ow i l st
      simp only [evC, hfun]
      refine FuO.ite (FuO.none _) ?_
      cases cx.funs[i.toNat]? with
      | none => exact FuO.none _
      | some f =>
        exact FuO.ite (FuO.none _) (FuO.bind (F' := cx'.fuel) (hA _ _ _ _) (fun _ _ => FuO.bind (F' := cx'.fuel) (tick_fu hf _) (fun _ _ => FuO.bind (F' := cx'.fuel) (hL _ _ _ _) (fun _ _ => FuO.val _ _) fun _ _ => GwO.val (Gw.refl _ _) _) fun _ _ => GwO.bind (gL _ _ _ _) fun _ _ => GwO.val (Gw.refl _ _) _) fun _ _ => GwO.bind (tick_gw _ _) fun _ _ => GwO.bind (gL _ _ _ _) fun _ _ => GwO.val (Gw.refl _ _) _)
    · rintro rs ow ⟨k, s, l, t, u⟩ st
      simp only [evS]
      refine FuO.ite ?_ (FuO.ite ?_ (FuO.ite ?_ (FuO.ite ?_ (FuO.ite ?_ (FuO.ite ?_ (FuO.ite ?_ (FuO.val _ _)))))))
      · cases l[0]? with
        | none => exact FuO.none _
        | some a =>
          refine FuO.bind (F' := cx'.fuel) (hE _ _ _ _) (fun v st => ?_) fun _ _ => set_gw _ _ _ _ _
          cases setR (rs s) v ow st with
          | none => exact FuO.none _
          | some r => exact FuO.val _ _
      · cases l[0]? with
        | none => exact FuO.none _
        | some a =>
          cases l[1]? with
          | none => exact FuO.none _
          | some b => exact FuO.bind (F' := cx'.fuel) (hE _ _ _ _) (fun _ _ => FuO.bind (F' := cx'.fuel) (hE _ _ _ _) (fun _ st => FuO.ite (FuO.bind (F' := cx'.fuel) (hat _ _ _) (fun _ _ => FuO.val _ _) fun _ _ => GwO.val (by exact ⟨List.prefix_refl _, Nat.le_refl _, fun h => h⟩) _) (FuO.none _)) fun _ _ => GwO.ite (GwO.bind (at_gw _ _ _ _) fun _ _ => GwO.val (by exact ⟨List.prefix_refl _, Nat.le_refl _, fun h => h⟩) _) (GwO.none _ _)) fun _ _ => GwO.bind (gE _ _ _ _) fun _ _ => GwO.ite (GwO.bind (at_gw _ _ _ _) fun _ _ => GwO.val (by exact ⟨List.prefix_refl _, Nat.le_refl _, fun h => h⟩) _) (GwO.none _ _)
      · cases l[0]? with
        | none => exact FuO.none _
        | some a => exact FuO.bind (F' := cx'.fuel) (hE _ _ _ _) (fun _ _ => FuO.bind (F' := cx'.fuel) (hput _ _) (fun _ _ => FuO.val _ _) fun _ _ => GwO.val (Gw.refl _ _) _) fun _ _ => GwO.bind (put_gw _ _ _) fun _ _ => GwO.val (Gw.refl _ _) _
      · cases l[0]? with
        | none => exact FuO.none _
        | some a => exact FuO.bind (F' := cx'.fuel) (hE _ _ _ _) (fun _ _ => FuO.ite (hL _ _ _ _) (hL _ _ _ _)) fun _ _ => GwO.ite (gL _ _ _ _) (gL _ _ _ _)
      · cases l[0]? with
        | none => exact FuO.none _
        | some a => exact hW _ _ _ _ _
      · exact FuO.bind (F' := cx'.fuel) (hC _ _ _ _ _) (fun _ _ => FuO.val _ _) fun _ _ => GwO.val (Gw.refl _ _) _
      · cases l[0]? with
        | none => exact FuO.val _ _
        | some a => exact FuO.bind (F' := cx'.fuel) (hE _ _ _ _) (fun _ _ => FuO.val _ _) fun _ _ => GwO.val (Gw.refl _ _) _
    · intro rs ow l st
      cases l with
      | nil => simp only [evL]; exact FuO.val _ _
      | cons s l =>
        simp only [evL]
        refine FuO.bind (F' := cx'.fuel) (hS _ _ _ _) (fun r st => ?_) fun r st => ?_
        · cases r.1 with
          | some v => exact FuO.val _ _
          | none => exact hL _ _ _ _
        · cases r.1 with
          | some v => exact GwO.val (Gw.refl _ _) _
          | none => exact gL _ _ _ _
    · intro rs ow c t st
      have g3 : ∀ (r : Option Int × List Int) st, GwO cx'.fuel st (match r.1 with | some v => some (.val (some v, r.2) st) | none => evW cx' n rs r.2 c t st) := fun r st => by
        cases r.1 with
        | some v => exact GwO.val (Gw.refl _ _) _
        | none => exact gW _ _ _ _ _
      simp only [evW]
      refine FuO.bind (F' := cx'.fuel) (tick_fu hf _) (fun _ st => FuO.bind (F' := cx'.fuel) (hE _ _ _ _) (fun x st => FuO.ite (FuO.val _ _) (FuO.bind (F' := cx'.fuel) (hL _ _ _ _) (fun r st => ?_) fun r st => g3 r st)) fun _ _ => GwO.ite (GwO.val (Gw.refl _ _) _) (GwO.bind (gL _ _ _ _) g3)) fun _ _ => GwO.bind (gE _ _ _ _) fun _ _ => GwO.ite (GwO.val (Gw.refl _ _) _) (GwO.bind (gL _ _ _ _) g3)
      cases r.1 with
      | some v => exact FuO.val _ _
      | none => exact hW _ _ _ _ _
/-- THE PLAIN LAW OF FUEL. -/
theorem run_fuel {cx cx' : Cx} (hf : cx.fuel ≤ cx'.fuel) (hfun : cx'.funs = cx.funs) (hi : cx'.inp = cx.inp) {n m nv : Nat} {sizes : List Nat} {r r' : Int × Str × Nat} (h : runR cx n nv sizes = some r) (h' : runR cx' m nv sizes = some r') :
    r.2.2 ≤ cx.fuel ∧ (r.1 ≠ 5 → r' = r) ∧ (r.1 = 5 → r.2.2 = cx.fuel ∧ r.2.1 <+: r'.2.1 ∧ cx.fuel ≤ r'.2.2) := by
  have h1 := run_deep (Nat.le_max_left n m) h
  have h2 := run_deep (Nat.le_max_right n m) h'
  have hm : cx'.main = cx.main := by simp only [Cx.main, hfun]
  unfold runR at h1 h2
  rw [hm] at h2
  cases hc : cx.main with
  | none => rw [hc] at h1; cases h1
  | some f =>
    rw [hc] at h1 h2
    simp only [Option.bind_some, Option.map_eq_some_iff] at h1 h2
    obtain ⟨x, hx, rfl⟩ := h1
    obtain ⟨y, hy, rfl⟩ := h2
    have g := (grow cx (max n m)).L _ _ _ _ x hx
    have g2 := g.f (Nat.zero_le _)
    have e := (more hf hfun hi (max n m)).L _ _ _ _ x hx
    cases x with
    | val a s =>
      simp only at e
      rw [hy] at e
      cases e
      exact ⟨g2, fun _ => rfl, fun c => by simp [endR] at c⟩
    | fin k s =>
      simp only at e
      rcases e with ⟨hk, e⟩ | ⟨rfl, ht, e⟩
      · rw [hy] at e
        cases e
        exact ⟨g2, fun _ => rfl, fun c => absurd c hk⟩
      · have e2 := e y hy
        simp only [Rz.st] at g2
        refine ⟨g2, fun c => absurd rfl c, fun _ => ⟨by simp only [endR]; omega, ?_⟩⟩
        cases y with
        | val a s' => exact ⟨e2.1, by simp only [Rz.st] at e2; simp only [endR]; omega⟩
        | fin k s' => exact ⟨e2.1, by simp only [Rz.st] at e2; simp only [endR]; omega⟩
end Go.Al
