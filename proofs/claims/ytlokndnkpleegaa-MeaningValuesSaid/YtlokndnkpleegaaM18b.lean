/- Chapter 18, in plain Lean: a run that is cut deeper goes on the same; what a run puts out and counts grows. -/
import Derived.Test.YtlokndnkpleegaaM18a
set_option linter.unusedSimpArgs false
set_option linter.unusedVariables false
set_option maxRecDepth 10000
namespace Go.Al
def LeO {α : Type} (x y : Option α) : Prop := ∀ o, x = some o → y = some o
theorem LeO.refl {α : Type} (x : Option α) : LeO x x := fun _ h => h
theorem LeO.none {α : Type} (y : Option α) : LeO none y := fun _ h => by cases h
theorem LeO.bindR {α β : Type} {x y : Option (Rz α)} {f g : α → RS → Option (Rz β)} (h : LeO x y) (hf : ∀ a s, LeO (f a s) (g a s)) : LeO (bindR x f) (bindR y g) := fun o ho => by
  cases x with
  | none => cases ho
  | some r =>
    have := h r rfl
    subst this
    cases r with
    | val a s => exact hf a s o ho
    | fin e s => exact ho
theorem LeO.ite {α : Type} {c : Prop} [Decidable c] {x y x' y' : Option α} (h : LeO x x') (h' : LeO y y') : LeO (if c then x else y) (if c then x' else y') := by
  split
  · exact h
  · exact h'
structure Deep (cx : Cx) (n : Nat) : Prop where
  E : ∀ rs ow e st, LeO (evE cx n rs ow e st) (evE cx (n + 1) rs ow e st)
  A : ∀ rs ow l st, LeO (evA cx n rs ow l st) (evA cx (n + 1) rs ow l st)
  C : ∀ rs ow i l st, LeO (evC cx n rs ow i l st) (evC cx (n + 1) rs ow i l st)
  S : ∀ rs ow e st, LeO (evS cx n rs ow e st) (evS cx (n + 1) rs ow e st)
  L : ∀ rs ow l st, LeO (evL cx n rs ow l st) (evL cx (n + 1) rs ow l st)
  W : ∀ rs ow c t st, LeO (evW cx n rs ow c t st) (evW cx (n + 1) rs ow c t st)
theorem deep (cx : Cx) (n : Nat) : Deep cx n := by
  induction n with
  | zero =>
    constructor
    all_goals
      intros
      intro o h
      simp [evE, evA, evC, evS, evL, evW] at h
  | succ n ih =>
    obtain ⟨hE, hA, hC, hS, hL, hW⟩ := ih
    constructor
    · rintro rs ow ⟨k, o, m, s, l⟩ st
      simp only [evE]
      refine LeO.ite (LeO.refl _) (LeO.ite (LeO.refl _) (LeO.ite ?_ (LeO.ite (hC _ _ _ _ _) (LeO.ite (LeO.refl _) ?_))))
      · cases l[0]? with
        | none => exact LeO.refl _
        | some a => exact LeO.bindR (hE _ _ _ _) fun _ _ => LeO.refl _
      · cases l[0]? with
        | none => exact LeO.refl _
        | some a =>
          refine LeO.ite (LeO.bindR (hE _ _ _ _) fun _ _ => LeO.refl _) ?_
          cases l[1]? with
          | none => exact LeO.refl _
          | some b =>
            refine LeO.ite (LeO.bindR (hE _ _ _ _) fun _ _ => LeO.bindR (hE _ _ _ _) fun _ _ => LeO.refl _) ?_
            exact LeO.bindR (hE _ _ _ _) fun _ _ => LeO.ite (LeO.refl _) (hE _ _ _ _)
    · intro rs ow l st
      cases l with
      | nil => simp only [evA]; exact LeO.refl _
      | cons e l =>
        simp only [evA]
        exact LeO.bindR (hE _ _ _ _) fun _ _ => LeO.bindR (hA _ _ _ _) fun _ _ => LeO.refl _
    · intro rs ow i l st
      simp only [evC]
      refine LeO.ite (LeO.refl _) ?_
      cases cx.funs[i.toNat]? with
      | none => exact LeO.refl _
      | some f => exact LeO.ite (LeO.refl _) (LeO.bindR (hA _ _ _ _) fun _ _ => LeO.bindR (LeO.refl _) fun _ _ => LeO.bindR (hL _ _ _ _) fun _ _ => LeO.refl _)
    · rintro rs ow ⟨k, s, l, t, u⟩ st
      simp only [evS]
      refine LeO.ite ?_ (LeO.ite ?_ (LeO.ite ?_ (LeO.ite ?_ (LeO.ite ?_ (LeO.ite ?_ (LeO.ite ?_ (LeO.refl _)))))))
      · cases l[0]? with
        | none => exact LeO.refl _
        | some a => exact LeO.bindR (hE _ _ _ _) fun _ _ => LeO.refl _
      · cases l[0]? with
        | none => exact LeO.refl _
        | some a =>
          cases l[1]? with
          | none => exact LeO.refl _
          | some b => exact LeO.bindR (hE _ _ _ _) fun _ _ => LeO.bindR (hE _ _ _ _) fun _ _ => LeO.refl _
      · cases l[0]? with
        | none => exact LeO.refl _
        | some a => exact LeO.bindR (hE _ _ _ _) fun _ _ => LeO.refl _
      · cases l[0]? with
        | none => exact LeO.refl _
        | some a => exact LeO.bindR (hE _ _ _ _) fun _ _ => LeO.ite (hL _ _ _ _) (hL _ _ _ _)
      · cases l[0]? with
        | none => exact LeO.refl _
        | some a => exact hW _ _ _ _ _
      · exact LeO.bindR (hC _ _ _ _ _) fun _ _ => LeO.refl _
      · cases l[0]? with
        | none => exact LeO.refl _
        | some a => exact LeO.bindR (hE _ _ _ _) fun _ _ => LeO.refl _
    · intro rs ow l st
      cases l with
      | nil => simp only [evL]; exact LeO.refl _
      | cons s l =>
        simp only [evL]
        refine LeO.bindR (hS _ _ _ _) fun r st => ?_
        cases r.1 with
        | some v => exact LeO.refl _
        | none => exact hL _ _ _ _
    · intro rs ow c t st
      simp only [evW]
      refine LeO.bindR (LeO.refl _) fun _ st => LeO.bindR (hE _ _ _ _) fun x st => LeO.ite (LeO.refl _) (LeO.bindR (hL _ _ _ _) fun r st => ?_)
      cases r.1 with
      | some v => exact LeO.refl _
      | none => exact hW _ _ _ _ _
theorem deeper {α : Type} {f : Nat → Option α} (h : ∀ n, LeO (f n) (f (n + 1))) {n m : Nat} (hm : n ≤ m) : LeO (f n) (f m) := by
  induction m with
  | zero => obtain rfl : n = 0 := by omega
            exact LeO.refl _
  | succ m ih =>
    rcases Nat.lt_or_ge m n with h1 | h1
    · obtain rfl : n = m + 1 := by omega
      exact LeO.refl _
    · exact fun o ho => h m o (ih h1 o ho)
theorem evE_deep {cx : Cx} {n m : Nat} (hm : n ≤ m) {rs ow e st o} (h : evE cx n rs ow e st = some o) : evE cx m rs ow e st = some o := deeper (f := fun n => evE cx n rs ow e st) (fun n => (deep cx n).E _ _ _ _) hm o h
theorem evA_deep {cx : Cx} {n m : Nat} (hm : n ≤ m) {rs ow e st o} (h : evA cx n rs ow e st = some o) : evA cx m rs ow e st = some o := deeper (f := fun n => evA cx n rs ow e st) (fun n => (deep cx n).A _ _ _ _) hm o h
theorem evC_deep {cx : Cx} {n m : Nat} (hm : n ≤ m) {rs ow i e st o} (h : evC cx n rs ow i e st = some o) : evC cx m rs ow i e st = some o := deeper (f := fun n => evC cx n rs ow i e st) (fun n => (deep cx n).C _ _ _ _ _) hm o h
theorem evS_deep {cx : Cx} {n m : Nat} (hm : n ≤ m) {rs ow e st o} (h : evS cx n rs ow e st = some o) : evS cx m rs ow e st = some o := deeper (f := fun n => evS cx n rs ow e st) (fun n => (deep cx n).S _ _ _ _) hm o h
theorem evL_deep {cx : Cx} {n m : Nat} (hm : n ≤ m) {rs ow e st o} (h : evL cx n rs ow e st = some o) : evL cx m rs ow e st = some o := deeper (f := fun n => evL cx n rs ow e st) (fun n => (deep cx n).L _ _ _ _) hm o h
theorem evW_deep {cx : Cx} {n m : Nat} (hm : n ≤ m) {rs ow c e st o} (h : evW cx n rs ow c e st = some o) : evW cx m rs ow c e st = some o := deeper (f := fun n => evW cx n rs ow c e st) (fun n => (deep cx n).W _ _ _ _ _) hm o h
end Go.Al
