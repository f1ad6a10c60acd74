/- Chapter 18, in plain Lean: programs that differ in names, in what stands ahead, in conditions that are turned, do the same. -/
import Derived.Test.YtlokndnkpleegaaM18d
set_option linter.unusedSimpArgs false
set_option linter.unusedVariables false
set_option maxRecDepth 10000
namespace Go.Al
def Rz.map {α : Type} (sh : RS → RS) : Rz α → Rz α
  | .val a s => .val a (sh s)
  | .fin e s => .fin e (sh s)
def SimO {α : Type} (sh : RS → RS) (x y : Option (Rz α)) : Prop := ∀ o, x = some o → y = some (o.map sh)
section
variable {sh : RS → RS}
theorem SimO.none {α : Type} (y : Option (Rz α)) : SimO sh none y := fun _ h => by cases h
theorem SimO.val {α : Type} (a : α) (s : RS) : SimO sh (some (.val a s)) (some (.val a (sh s))) := fun _ h => by cases h; rfl
theorem SimO.bindR {α β : Type} {x y : Option (Rz α)} {f g : α → RS → Option (Rz β)} (h : SimO sh x y) (hf : ∀ a s, SimO sh (f a s) (g a (sh s))) : SimO sh (bindR x f) (bindR y g) := fun o ho => by
  cases x with
  | none => cases ho
  | some r =>
    have := h r rfl
    subst this
    cases r with
    | val a s => exact hf a s o ho
    | fin e s => cases ho; rfl
theorem SimO.ite {α : Type} {c : Prop} [Decidable c] {x y x' y' : Option (Rz α)} (h : c → SimO sh x x') (h' : ¬ c → SimO sh y y') : SimO sh (if c then x else y) (if c then x' else y') := by
  split
  · exact h ‹_›
  · exact h' ‹_›
theorem SimO.le {α : Type} {x y z : Option (Rz α)} (h : SimO sh x y) (h' : LeO y z) : SimO sh x z := fun o ho => h' _ (h o ho)
end
/-- the shift: variables that stand ahead -/
def shV (pre : List Int) (s : RS) : RS := { s with vars := pre ++ s.vars }
/-- a variable's place, in both -/
def varS (dv : Nat) (p q : Bool × Int) : Prop := 0 ≤ p.2 ∧ q.1 = p.1 ∧ q.2 = (if p.1 then p.2 else p.2 + dv)
mutual
def simE (dv df : Nat) (rs rs' : Str → Bool × Int) : Ex → Ex → Prop
  | .mk k o m s l, .mk k' o' m' s' l' => k' = k ∧ o' = o ∧ m' = m ∧ (k = 2 → varS dv (rs s) (rs' s')) ∧ (k = 3 → (rs' s').2 = (rs s).2) ∧ (k = 4 → 0 ≤ (rs s).2 ∧ (rs' s').2 = (rs s).2 + df) ∧ simEs dv df rs rs' l l'
def simEs (dv df : Nat) (rs rs' : Str → Bool × Int) : List Ex → List Ex → Prop
  | [], [] => True
  | e :: l, e' :: l' => simE dv df rs rs' e e' ∧ simEs dv df rs rs' l l'
  | _, _ => False
end
mutual
def simS (dv df : Nat) (rs rs' : Str → Bool × Int) : Sm → Sm → Prop
  | .mk k s l t u, .mk k' s' l' t' u' => k' = k ∧ (k = 1 → varS dv (rs s) (rs' s')) ∧ (k = 2 → (rs' s').2 = (rs s).2) ∧ (k = 6 → 0 ≤ (rs s).2 ∧ (rs' s').2 = (rs s).2 + df) ∧
    ((simEs dv df rs rs' l l' ∧ simSs dv df rs rs' t t' ∧ simSs dv df rs rs' u u') ∨ (k = 4 ∧ (∃ a a' x, l = [a] ∧ l' = [.mk 7 0 0 x [a']] ∧ simE dv df rs rs' a a') ∧ simSs dv df rs rs' t u' ∧ simSs dv df rs rs' u t'))
def simSs (dv df : Nat) (rs rs' : Str → Bool × Int) : List Sm → List Sm → Prop
  | [], [] => True
  | e :: l, e' :: l' => simS dv df rs rs' e e' ∧ simSs dv df rs rs' l l'
  | _, _ => False
end
theorem simEs_len {dv df : Nat} {rs rs' : Str → Bool × Int} : ∀ {l l' : List Ex}, simEs dv df rs rs' l l' → l'.length = l.length
  | [], [], _ => rfl
  | e :: l, e' :: l', h => by simp only [simEs] at h; simp [simEs_len h.2]
  | [], _ :: _, h => by simp [simEs] at h
  | _ :: _, [], h => by simp [simEs] at h
theorem simEs_get {dv df : Nat} {rs rs' : Str → Bool × Int} : ∀ {l l' : List Ex}, simEs dv df rs rs' l l' → ∀ j : Nat, (l[j]? = none ∧ l'[j]? = none) ∨ ∃ a a', l[j]? = some a ∧ l'[j]? = some a' ∧ simE dv df rs rs' a a'
  | [], [], _, j => by simp
  | e :: l, e' :: l', h, 0 => by simp only [simEs] at h; exact .inr ⟨e, e', rfl, rfl, h.1⟩
  | e :: l, e' :: l', h, j + 1 => by simp only [simEs] at h; simpa using simEs_get h.2 j
  | [], _ :: _, h, _ => by simp [simEs] at h
  | _ :: _, [], h, _ => by simp [simEs] at h
/-- two programs, function by function -/
structure SimX (dv df : Nat) (cx cx' : Cx) : Prop where
  fuel : cx'.fuel = cx.fuel
  inp : cx'.inp = cx.inp
  fn : ∀ (i : Nat) f, cx.funs[i]? = some f → ∃ f', cx'.funs[i + df]? = some f' ∧ f'.words = f.words ∧ simSs dv df f.res f'.res f.body f'.body
structure SimN (pre : List Int) (df : Nat) (cx cx' : Cx) (n m : Nat) : Prop where
  E : ∀ rs rs' ow e e' st, simE pre.length df rs rs' e e' → SimO (shV pre) (evE cx n rs ow e st) (evE cx' m rs' ow e' (shV pre st))
  A : ∀ rs rs' ow l l' st, simEs pre.length df rs rs' l l' → SimO (shV pre) (evA cx n rs ow l st) (evA cx' m rs' ow l' (shV pre st))
  C : ∀ rs rs' ow (i : Int) l l' st, 0 ≤ i → simEs pre.length df rs rs' l l' → SimO (shV pre) (evC cx n rs ow i l st) (evC cx' m rs' ow (i + df) l' (shV pre st))
  S : ∀ rs rs' ow e e' st, simS pre.length df rs rs' e e' → SimO (shV pre) (evS cx n rs ow e st) (evS cx' m rs' ow e' (shV pre st))
  L : ∀ rs rs' ow l l' st, simSs pre.length df rs rs' l l' → SimO (shV pre) (evL cx n rs ow l st) (evL cx' m rs' ow l' (shV pre st))
  W : ∀ rs rs' ow c c' t t' st, simE pre.length df rs rs' c c' → simSs pre.length df rs rs' t t' → SimO (shV pre) (evW cx n rs ow c t st) (evW cx' m rs' ow c' t' (shV pre st))
theorem look_sh {pre : List Int} {p q : Bool × Int} (h : varS pre.length p q) (ow : List Int) (st : RS) : lookR q ow (shV pre st) = lookR p ow st := by
  obtain ⟨h0, h1, h2⟩ := h
  unfold lookR
  rw [h1, h2]
  cases hp : p.1 with
  | true => simp
  | false =>
    simp only [Bool.false_eq_true, if_false, shV]
    rw [if_pos h0, if_pos (by omega), List.getElem?_append_right (by omega)]
    congr 1
    omega
theorem set_sh {pre : List Int} {p q : Bool × Int} (h : varS pre.length p q) (v : Int) (ow : List Int) (st : RS) : setR q v ow (shV pre st) = (setR p v ow st).map fun r => (r.1, shV pre r.2) := by
  obtain ⟨h0, h1, h2⟩ := h
  unfold setR
  rw [h1, h2]
  cases hp : p.1 with
  | true =>
    simp only [if_true, if_pos h0]
    split <;> rfl
  | false =>
    simp only [Bool.false_eq_true, if_false, shV, List.length_append]
    rw [if_pos h0, if_pos (by omega)]
    have e : (p.2 + (pre.length : Int)).toNat = pre.length + p.2.toNat := by omega
    rw [e]
    by_cases hl : p.2.toNat < st.vars.length
    · rw [if_pos hl, if_pos (by omega)]
      simp
    · rw [if_neg hl, if_neg (by omega)]
      rfl
theorem at_sh (pre : List Int) (i x : Int) (st : RS) : SimO (shV pre) (atR i x st) (atR i x (shV pre st)) := by
  unfold atR
  simp only [shV]
  cases st.arrs[i.toNat]? with
  | none => exact SimO.none _
  | some l =>
    simp only
    split
    · exact SimO.val _ _
    · exact fun o h => by cases h; rfl
theorem tick_sh {cx cx' : Cx} (h : cx'.fuel = cx.fuel) (pre : List Int) (st : RS) : SimO (shV pre) (some (tickR cx st)) (some (tickR cx' (shV pre st))) := by
  unfold tickR
  simp only [shV, h]
  split
  · exact fun o h => by cases h; rfl
  · exact fun o h => by cases h; rfl
theorem get_sh {cx cx' : Cx} (h : cx'.inp = cx.inp) (pre : List Int) (st : RS) : SimO (shV pre) (some (getR cx st)) (some (getR cx' (shV pre st))) := by
  unfold getR
  simp only [shV, h]
  split
  · exact fun o h => by cases h; rfl
  · exact fun o h => by cases h; rfl
theorem put_sh (pre : List Int) (v : Int) (st : RS) : SimO (shV pre) (some (putR v st)) (some (putR v (shV pre st))) := by
  unfold putR
  simp only [shV]
  by_cases hc : 65536 ≤ st.out.length
  · simp only [hc, if_true]
    exact fun o h => by cases h; rfl
  · simp only [hc, if_false]
    exact fun o h => by cases h; rfl
theorem simul {pre : List Int} {df : Nat} {cx cx' : Cx} (hx : SimX pre.length df cx cx') (n : Nat) : SimN pre df cx cx' n (2 * n) := by
  induction n with
  | zero =>
    constructor
    all_goals
      intros
      intro o h
      simp [evE, evA, evC, evS, evL, evW] at h
  | succ n ih =>
    obtain ⟨hE, hA, hC, hS, hL, hW⟩ := ih
    have hE1 : ∀ rs rs' ow e e' st, simE pre.length df rs rs' e e' → SimO (shV pre) (evE cx n rs ow e st) (evE cx' (2 * n + 1) rs' ow e' (shV pre st)) := fun rs rs' ow e e' st h => (hE rs rs' ow e e' st h).le ((deep cx' (2 * n)).E _ _ _ _)
    have hA1 : ∀ rs rs' ow e e' st, simEs pre.length df rs rs' e e' → SimO (shV pre) (evA cx n rs ow e st) (evA cx' (2 * n + 1) rs' ow e' (shV pre st)) := fun rs rs' ow e e' st h => (hA rs rs' ow e e' st h).le ((deep cx' (2 * n)).A _ _ _ _)
    have hC1 : ∀ rs rs' ow (i : Int) l l' st, 0 ≤ i → simEs pre.length df rs rs' l l' → SimO (shV pre) (evC cx n rs ow i l st) (evC cx' (2 * n + 1) rs' ow (i + df) l' (shV pre st)) := fun rs rs' ow i l l' st h0 h => (hC rs rs' ow i l l' st h0 h).le ((deep cx' (2 * n)).C _ _ _ _ _)
    have hS1 : ∀ rs rs' ow e e' st, simS pre.length df rs rs' e e' → SimO (shV pre) (evS cx n rs ow e st) (evS cx' (2 * n + 1) rs' ow e' (shV pre st)) := fun rs rs' ow e e' st h => (hS rs rs' ow e e' st h).le ((deep cx' (2 * n)).S _ _ _ _)
    have hL1 : ∀ rs rs' ow e e' st, simSs pre.length df rs rs' e e' → SimO (shV pre) (evL cx n rs ow e st) (evL cx' (2 * n + 1) rs' ow e' (shV pre st)) := fun rs rs' ow e e' st h => (hL rs rs' ow e e' st h).le ((deep cx' (2 * n)).L _ _ _ _)
    have hW1 : ∀ rs rs' ow c c' t t' st, simE pre.length df rs rs' c c' → simSs pre.length df rs rs' t t' → SimO (shV pre) (evW cx n rs ow c t st) (evW cx' (2 * n + 1) rs' ow c' t' (shV pre st)) := fun rs rs' ow c c' t t' st h h' => (hW rs rs' ow c c' t t' st h h').le ((deep cx' (2 * n)).W _ _ _ _ _)
    rw [show 2 * (n + 1) = (2 * n + 1) + 1 by omega]
    constructor
    · rintro rs rs' ow ⟨k, o, m, s, l⟩ ⟨k', o', m', s', l'⟩ st h
      simp only [simE] at h
      obtain ⟨rfl, rfl, rfl, h2, h3, h4, hl⟩ := h
      simp only [evE]
      refine SimO.ite (fun _ => SimO.val _ _) fun _ => SimO.ite (fun e2 => ?_) fun _ => SimO.ite (fun e3 => ?_) fun _ => SimO.ite (fun e4 => ?_) fun _ => SimO.ite (fun _ => get_sh hx.inp pre st) fun _ => ?_
      · rw [look_sh (h2 e2)]
        cases lookR (rs s) ow st with
        | none => exact SimO.none _
        | some v => exact SimO.val _ _
      · rcases simEs_get hl 0 with ⟨g1, g2⟩ | ⟨a, a', g1, g2, g3⟩
        · rw [g1, g2]; exact SimO.none _
        · rw [g1, g2, h3 e3]
          refine SimO.bindR (hE1 _ _ _ _ _ _ g3) fun x st => SimO.ite (fun _ => SimO.bindR (at_sh pre _ _ _) fun j st => ?_) fun _ => SimO.none _
          simp only [shV]
          cases (st.arrs[(rs s).2.toNat]?).bind fun l => l[j]? with
          | none => exact SimO.none _
          | some v => exact SimO.val _ _
      · obtain ⟨q1, q2⟩ := h4 e4
        rw [q2]
        exact hC1 _ _ _ _ _ _ _ q1 hl
      · rcases simEs_get hl 0 with ⟨g1, g2⟩ | ⟨a, a', g1, g2, g3⟩
        · rw [g1, g2]; exact SimO.none _
        · rw [g1, g2]
          refine SimO.ite (fun _ => SimO.bindR (hE1 _ _ _ _ _ _ g3) fun x st => SimO.val _ _) fun _ => ?_
          rcases simEs_get hl 1 with ⟨g4, g5⟩ | ⟨b, b', g4, g5, g6⟩
          · rw [g4, g5]; exact SimO.none _
          · rw [g4, g5]
            refine SimO.ite (fun _ => SimO.bindR (hE1 _ _ _ _ _ _ g3) fun x st => SimO.bindR (hE1 _ _ _ _ _ _ g6) fun y st => SimO.ite (fun _ => SimO.val _ _) fun _ => fun o h => by cases h; rfl) fun _ => ?_
            exact SimO.bindR (hE1 _ _ _ _ _ _ g3) fun x st => SimO.ite (fun _ => SimO.val _ _) fun _ => hE1 _ _ _ _ _ _ g6
    · intro rs rs' ow l l' st h
      cases l with
      | nil =>
        cases l' with
        | nil => simp only [evA]; exact SimO.val _ _
        | cons e' l' => simp [simEs] at h
      | cons e l =>
        cases l' with
        | nil => simp [simEs] at h
        | cons e' l' =>
          simp only [simEs] at h
          simp only [evA]
          exact SimO.bindR (hE1 _ _ _ _ _ _ h.1) fun v st => SimO.bindR (hA1 _ _ _ _ _ _ h.2) fun vs st => SimO.val _ _
    · intro rs rs' ow i l l' st h0 h
      simp only [evC]
      rw [if_neg (by omega), if_neg (by omega), simEs_len h]
      cases hf : cx.funs[i.toNat]? with
      | none => exact SimO.none _
      | some f =>
        obtain ⟨f', g1, g2, g3⟩ := hx.fn _ f hf
        rw [show (i + (df : Int)).toNat = i.toNat + df by omega, g1]
        simp only [g2]
        refine SimO.ite (fun _ => SimO.none _) fun _ => SimO.bindR (hA1 _ _ _ _ _ _ h) fun vs st => SimO.bindR (tick_sh hx.fuel pre st) fun _ st => SimO.bindR (hL1 _ _ _ _ _ _ g3) fun r st => SimO.val _ _
    · rintro rs rs' ow ⟨k, s, l, t, u⟩ ⟨k', s', l', t', u'⟩ st h
      simp only [simS] at h
      obtain ⟨rfl, h1, h2, h6, h⟩ := h
      simp only [evS]
      rcases h with ⟨hl, ht, hu⟩ | ⟨rfl, ⟨a, a', x, rfl, rfl, ha⟩, ht, hu⟩
      · have g := simEs_get hl 0
        refine SimO.ite (fun e1 => ?_) fun _ => SimO.ite (fun e2 => ?_) fun _ => SimO.ite (fun e3 => ?_) fun _ => SimO.ite (fun e4 => ?_) fun _ => SimO.ite (fun e5 => ?_) fun _ => SimO.ite (fun e6 => ?_) fun _ => SimO.ite (fun e7 => ?_) fun _ => SimO.val _ _
        · rcases g with ⟨g1, g2⟩ | ⟨a, a', g1, g2, g3⟩
          · rw [g1, g2]; exact SimO.none _
          · rw [g1, g2]
            refine SimO.bindR (hE1 _ _ _ _ _ _ g3) fun v st => ?_
            rw [set_sh (h1 e1)]
            cases setR (rs s) v ow st with
            | none => exact SimO.none _
            | some r => exact SimO.val _ _
        · rcases g with ⟨g1, g2⟩ | ⟨a, a', g1, g2, g3⟩
          · rw [g1, g2]; exact SimO.none _
          · rw [g1, g2]
            rcases simEs_get hl 1 with ⟨g4, g5⟩ | ⟨b, b', g4, g5, g6⟩
            · rw [g4, g5]; exact SimO.none _
            · rw [g4, g5, h2 e2]
              refine SimO.bindR (hE1 _ _ _ _ _ _ g3) fun x st => SimO.bindR (hE1 _ _ _ _ _ _ g6) fun v st => SimO.ite (fun _ => SimO.bindR (at_sh pre _ _ _) fun j st => SimO.val _ _) fun _ => SimO.none _
        · rcases g with ⟨g1, g2⟩ | ⟨a, a', g1, g2, g3⟩
          · rw [g1, g2]; exact SimO.none _
          · rw [g1, g2]
            exact SimO.bindR (hE1 _ _ _ _ _ _ g3) fun v st => SimO.bindR (put_sh pre v st) fun _ st => SimO.val _ _
        · rcases g with ⟨g1, g2⟩ | ⟨a, a', g1, g2, g3⟩
          · rw [g1, g2]; exact SimO.none _
          · rw [g1, g2]
            exact SimO.bindR (hE1 _ _ _ _ _ _ g3) fun v st => SimO.ite (fun _ => hL1 _ _ _ _ _ _ hu) fun _ => hL1 _ _ _ _ _ _ ht
        · rcases g with ⟨g1, g2⟩ | ⟨a, a', g1, g2, g3⟩
          · rw [g1, g2]; exact SimO.none _
          · rw [g1, g2]
            exact hW1 _ _ _ _ _ _ _ _ g3 ht
        · obtain ⟨q1, q2⟩ := h6 e6
          rw [q2]
          exact SimO.bindR (hC1 _ _ _ _ _ _ _ q1 hl) fun _ st => SimO.val _ _
        · rcases g with ⟨g1, g2⟩ | ⟨a, a', g1, g2, g3⟩
          · rw [g1, g2]; exact SimO.val _ _
          · rw [g1, g2]
            exact SimO.bindR (hE1 _ _ _ _ _ _ g3) fun v st => SimO.val _ _
      · simp only [show ¬ (4 : Int) = 1 by decide, show ¬ (4 : Int) = 2 by decide, show ¬ (4 : Int) = 3 by decide, if_false, if_true, List.getElem?_cons_zero]
        have hE2 := hE rs rs' ow a a' st ha
        intro o ho
        cases hv : evE cx n rs ow a st with
        | none => rw [hv] at ho; cases ho
        | some r =>
          rw [hv] at ho
          have h3 := hE2 r hv
          simp only [evE, show ¬ (7 : Int) = 1 by decide, show ¬ (7 : Int) = 2 by decide, show ¬ (7 : Int) = 3 by decide, show ¬ (7 : Int) = 4 by decide, show ¬ (7 : Int) = 5 by decide, if_false, if_true, List.getElem?_cons_zero, h3]
          cases r with
          | fin e s1 => cases ho; rfl
          | val v s1 =>
            simp only [bindR, Rz.map] at ho ⊢
            by_cases h0 : v = 0
            · rw [if_pos h0] at ho
              rw [if_pos h0, if_neg (by decide)]
              exact hL1 _ _ _ _ _ _ hu o ho
            · rw [if_neg h0] at ho
              rw [if_neg h0, if_pos rfl]
              exact hL1 _ _ _ _ _ _ ht o ho
    · intro rs rs' ow l l' st h
      cases l with
      | nil =>
        cases l' with
        | nil => simp only [evL]; exact SimO.val _ _
        | cons e' l' => simp [simSs] at h
      | cons e l =>
        cases l' with
        | nil => simp [simSs] at h
        | cons e' l' =>
          simp only [simSs] at h
          simp only [evL]
          refine SimO.bindR (hS1 _ _ _ _ _ _ h.1) fun r st => ?_
          cases r.1 with
          | some v => exact SimO.val _ _
          | none => exact hL1 _ _ _ _ _ _ h.2
    · intro rs rs' ow c c' t t' st h ht
      simp only [evW]
      refine SimO.bindR (tick_sh hx.fuel pre st) fun _ st => SimO.bindR (hE1 _ _ _ _ _ _ h) fun x st => SimO.ite (fun _ => SimO.val _ _) fun _ => SimO.bindR (hL1 _ _ _ _ _ _ ht) fun r st => ?_
      cases r.1 with
      | some v => exact SimO.val _ _
      | none => exact hW1 _ _ _ _ _ _ _ _ h ht
end Go.Al
