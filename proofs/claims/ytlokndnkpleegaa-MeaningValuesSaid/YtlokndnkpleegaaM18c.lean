/- Chapter 18, in plain Lean: a program whose names are right comes to an end. -/
import Derived.Test.YtlokndnkpleegaaM18b
set_option linter.unusedSimpArgs false
set_option linter.unusedVariables false
set_option maxRecDepth 10000
namespace Go.Al
/-- a family that is cut less and less deep comes to something -/
def Tot {α : Type} (f : Nat → Option (Rz α)) (P : α → RS → Prop) : Prop := ∃ n r, f n = some r ∧ ∀ a s, r = .val a s → P a s
def Mono {α : Type} (f : Nat → Option α) : Prop := ∀ n, LeO (f n) (f (n + 1))
theorem Mono.const {α : Type} (x : Option α) : Mono fun _ => x := fun _ => LeO.refl _
theorem Tot.const {α : Type} {x : Rz α} {P : α → RS → Prop} (h : ∀ a s, x = .val a s → P a s) : Tot (fun _ => some x) P := ⟨0, x, rfl, h⟩
theorem Tot.mono {α : Type} {f : Nat → Option (Rz α)} {P Q : α → RS → Prop} (h : Tot f P) (hp : ∀ a s, P a s → Q a s) : Tot f Q := by
  obtain ⟨n, r, h1, h2⟩ := h
  exact ⟨n, r, h1, fun a s e => hp a s (h2 a s e)⟩
theorem Tot.bind {α β : Type} {f : Nat → Option (Rz α)} {g : α → RS → Nat → Option (Rz β)} {P : α → RS → Prop} {Q : β → RS → Prop} (h : Tot f P) (hf : Mono f) (hg : ∀ a s, Mono (g a s)) (h2 : ∀ a s, P a s → Tot (g a s) Q) : Tot (fun n => bindR (f n) fun a s => g a s n) Q := by
  obtain ⟨n, r, h1, hP⟩ := h
  cases r with
  | fin e s => exact ⟨n, .fin e s, by simp only [h1, bindR], fun a s e => by cases e⟩
  | val a s =>
    obtain ⟨m, r, h3, hQ⟩ := h2 a s (hP a s rfl)
    refine ⟨max n m, r, ?_, hQ⟩
    have e1 := deeper hf (Nat.le_max_left n m) _ h1
    have e2 := deeper (hg a s) (Nat.le_max_right n m) _ h3
    simp only [e1, bindR]
    exact e2
theorem Tot.ite {α : Type} {c : Prop} [Decidable c] {f g : Nat → Option (Rz α)} {P : α → RS → Prop} (h1 : c → Tot f P) (h2 : ¬ c → Tot g P) : Tot (fun n => if c then f n else g n) P := by
  by_cases h : c
  · obtain ⟨n, r, e, hp⟩ := h1 h; exact ⟨n, r, by simp only [if_pos h, e], hp⟩
  · obtain ⟨n, r, e, hp⟩ := h2 h; exact ⟨n, r, by simp only [if_neg h, e], hp⟩
theorem Tot.succ {α : Type} {f g : Nat → Option (Rz α)} {P : α → RS → Prop} (h : Tot f P) (he : ∀ n, g (n + 1) = f n) : Tot g P := by
  obtain ⟨n, r, h1, h2⟩ := h
  exact ⟨n + 1, r, by rw [he, h1], h2⟩
theorem mE (cx : Cx) (rs ow e st) : Mono fun n => evE cx n rs ow e st := fun n => (deep cx n).E _ _ _ _
theorem mA (cx : Cx) (rs ow e st) : Mono fun n => evA cx n rs ow e st := fun n => (deep cx n).A _ _ _ _
theorem mC (cx : Cx) (rs ow i e st) : Mono fun n => evC cx n rs ow i e st := fun n => (deep cx n).C _ _ _ _ _
theorem mS (cx : Cx) (rs ow e st) : Mono fun n => evS cx n rs ow e st := fun n => (deep cx n).S _ _ _ _
theorem mL (cx : Cx) (rs ow e st) : Mono fun n => evL cx n rs ow e st := fun n => (deep cx n).L _ _ _ _
theorem mW (cx : Cx) (rs ow c e st) : Mono fun n => evW cx n rs ow c e st := fun n => (deep cx n).W _ _ _ _ _
theorem Mono.bind {α β : Type} {f : Nat → Option (Rz α)} {g : α → RS → Nat → Option (Rz β)} (hf : Mono f) (hg : ∀ a s, Mono (g a s)) : Mono fun n => bindR (f n) fun a s => g a s n := fun n => LeO.bindR (hf n) fun a s => hg a s n
theorem Mono.ite {α : Type} {c : Prop} [Decidable c] {f g : Nat → Option α} (hf : Mono f) (hg : Mono g) : Mono fun n => if c then f n else g n := fun n => LeO.ite (hf n) (hg n)
/-- what a name must be where it is used -/
structure Nm (cx : Cx) (nv na i : Nat) where
  w : Nat
  res : Str → Bool × Int
def varOk (cx : Cx) (nv i : Nat) (p : Bool × Int) : Prop := 0 ≤ p.2 ∧ (p.1 = true → ∀ f, cx.funs[i]? = some f → p.2 < f.words) ∧ (p.1 = false → p.2 < nv)
def callOk (cx : Cx) (i : Nat) (p : Bool × Int) (k : Nat) : Prop := 0 ≤ p.2 ∧ p.2 < i ∧ ∃ f, cx.funs[p.2.toNat]? = some f ∧ k ≤ f.words
mutual
def wfE (cx : Cx) (nv na i : Nat) (rs : Str → Bool × Int) : Ex → Prop
  | .mk k _ _ s l => (k = 2 → varOk cx nv i (rs s)) ∧ (k = 3 → 0 ≤ (rs s).2 ∧ (rs s).2 < na ∧ 1 ≤ l.length) ∧ (k = 4 → callOk cx i (rs s) l.length) ∧ (k = 7 → 1 ≤ l.length) ∧ (k ≠ 1 → k ≠ 2 → k ≠ 3 → k ≠ 4 → k ≠ 5 → k ≠ 7 → 2 ≤ l.length) ∧ wfEs cx nv na i rs l
def wfEs (cx : Cx) (nv na i : Nat) (rs : Str → Bool × Int) : List Ex → Prop
  | [] => True
  | e :: l => wfE cx nv na i rs e ∧ wfEs cx nv na i rs l
end
mutual
def wfS (cx : Cx) (nv na i : Nat) (rs : Str → Bool × Int) : Sm → Prop
  | .mk k s l t u => (k = 1 → varOk cx nv i (rs s)) ∧ (k = 2 → 0 ≤ (rs s).2 ∧ (rs s).2 < na ∧ 2 ≤ l.length) ∧ (k = 6 → callOk cx i (rs s) l.length) ∧ (k = 1 ∨ k = 3 ∨ k = 4 ∨ k = 5 → 1 ≤ l.length) ∧ wfEs cx nv na i rs l ∧ wfSs cx nv na i rs t ∧ wfSs cx nv na i rs u
def wfSs (cx : Cx) (nv na i : Nat) (rs : Str → Bool × Int) : List Sm → Prop
  | [] => True
  | e :: l => wfS cx nv na i rs e ∧ wfSs cx nv na i rs l
end
theorem wfEs_get {cx : Cx} {nv na i : Nat} {rs : Str → Bool × Int} : ∀ {l : List Ex}, wfEs cx nv na i rs l → ∀ {j : Nat} {e : Ex}, l[j]? = some e → wfE cx nv na i rs e ∧ e.sz ≤ szE l
  | [], _, j, e, h => by simp at h
  | x :: l, hw, 0, e, h => by
    simp only [wfEs] at hw
    simp only [List.getElem?_cons_zero, Option.some.injEq] at h
    subst h
    exact ⟨hw.1, by simp only [szE]; omega⟩
  | x :: l, hw, j + 1, e, h => by
    simp only [wfEs] at hw
    simp only [List.getElem?_cons_succ] at h
    have := wfEs_get hw.2 h
    exact ⟨this.1, by simp only [szE]; omega⟩
/-- the state's form, and that no tick is taken back -/
structure Fm (nv na t : Nat) (s : RS) : Prop where
  v : s.vars.length = nv
  a : s.arrs.length = na
  t : t ≤ s.ticks
theorem Fm.self {nv na t : Nat} {s : RS} (h : Fm nv na t s) : Fm nv na s.ticks s := ⟨h.v, h.a, Nat.le_refl _⟩
theorem Fm.trans {nv na t t' : Nat} {s : RS} (ht : t ≤ t') (h : Fm nv na t' s) : Fm nv na t s := ⟨h.v, h.a, Nat.le_trans ht h.t⟩
/-- function j's body ends, wherever it is begun -/
def bodyT (cx : Cx) (nv na j : Nat) : Prop := ∀ f, cx.funs[j]? = some f → ∀ (ow : List Int) (st : RS), ow.length = f.words → st.vars.length = nv → st.arrs.length = na →
  Tot (fun n => evL cx n f.res ow f.body st) (fun _ s => Fm nv na st.ticks s)
theorem tot_none {α : Type} {f : Nat → Option (Rz α)} {P : α → RS → Prop} (c : Prop) [Decidable c] (hc : c) {y : Nat → Option (Rz α)} (h : Tot f P) : Tot (fun n => if c then f n else y n) P := Tot.ite (fun _ => h) (fun h => absurd hc h)
section
variable {cx : Cx} {nv na i : Nat} {f : Cf} (hf : cx.funs[i]? = some f) (hb : ∀ j, j < i → bodyT cx nv na j)
include hf hb
theorem totE (N : Nat) : (∀ e : Ex, e.sz ≤ N → wfE cx nv na i f.res e → ∀ (ow : List Int) (st : RS) (t : Nat), ow.length = f.words → Fm nv na t st → Tot (fun n => evE cx n f.res ow e st) (fun _ s => Fm nv na t s)) := by
  induction N with
  | zero => intro e he; have := e.sz_eq; omega
  | succ N ih =>
    have ihA : ∀ l : List Ex, szE l ≤ N → wfEs cx nv na i f.res l → ∀ (ow : List Int) (st : RS) (t : Nat), ow.length = f.words → Fm nv na t st → Tot (fun n => evA cx n f.res ow l st) (fun vs s => Fm nv na t s ∧ vs.length = l.length) := by
      intro l
      induction l with
      | nil => intro _ _ ow st t ho hF; exact Tot.succ (f := fun _ => some (.val [] st)) (Tot.const fun a s e => by cases e; exact ⟨hF, rfl⟩) fun n => by simp only [evA]
      | cons e l ihl =>
        intro hs hw ow st t ho hF
        simp only [szE] at hs
        simp only [wfEs] at hw
        refine Tot.succ (f := fun n => bindR (evE cx n f.res ow e st) fun v st => bindR (evA cx n f.res ow l st) fun vs st => some (.val (v :: vs) st)) ?_ fun n => by simp only [evA]
        refine Tot.bind (ih e (by omega) hw.1 ow st t ho hF) (mE _ _ _ _ _) (fun a s => Mono.bind (mA _ _ _ _ _) fun _ _ => Mono.const _) fun a s h1 => ?_
        refine Tot.bind (ihl (by omega) hw.2 ow s t ho h1) (mA _ _ _ _ _) (fun _ _ => Mono.const _) fun vs s2 h2 => ?_
        exact Tot.const fun a s e => by cases e; exact ⟨h2.1, by simp [h2.2]⟩
    rintro ⟨k, o, m, s, l⟩ he hw ow st t ho hF
    simp only [wfE] at hw
    obtain ⟨w2, w3, w4, w7, w6, wl⟩ := hw
    simp only [Ex.sz] at he
    have kid : ∀ {j : Nat} {a : Ex}, l[j]? = some a → ∀ (st : RS) (t : Nat), Fm nv na t st → Tot (fun n => evE cx n f.res ow a st) (fun _ s => Fm nv na t s) := fun {j a} hj st t hF => by
      have := wfEs_get wl hj
      exact ih a (by omega) this.1 ow st t ho hF
    have get : ∀ {j : Nat}, j < l.length → ∃ a, l[j]? = some a := fun {j} h => ⟨l[j], List.getElem?_eq_getElem h⟩
    refine Tot.succ (f := fun n => evE cx (n + 1) f.res ow (.mk k o m s l) st) ?_ fun n => rfl
    simp only [evE]
    refine Tot.ite (fun h1 => Tot.const fun a s e => by cases e; exact hF) fun h1 => Tot.ite (fun h2 => ?_) fun h2 => Tot.ite (fun h3 => ?_) fun h3 => Tot.ite (fun h4 => ?_) fun h4 => Tot.ite (fun h5 => Tot.const fun a s e => ?_) fun h5 => ?_
    · obtain ⟨q1, q2, q3⟩ := w2 h2
      have : ∃ v, lookR (f.res s) ow st = some v := by
        unfold lookR
        rw [if_pos q1]
        cases hb : (f.res s).1 with
        | true =>
          have := q2 hb f hf
          exact ⟨_, List.getElem?_eq_getElem (by omega)⟩
        | false =>
          have := q3 hb
          have := hF.v
          exact ⟨_, List.getElem?_eq_getElem (by omega)⟩
      obtain ⟨v, hv⟩ := this
      rw [hv]
      exact Tot.const fun a s e => by cases e; exact hF
    · obtain ⟨q1, q2, q3⟩ := w3 h3
      obtain ⟨a, ha⟩ := get (j := 0) (by omega)
      simp only [ha]
      refine Tot.bind (kid ha st t hF) (mE _ _ _ _ _) (fun _ _ => Mono.const _) fun x s1 h6 => ?_
      rw [if_pos q1]
      have hl : (f.res s).2.toNat < s1.arrs.length := by have := h6.a; omega
      unfold atR
      rw [List.getElem?_eq_getElem hl]
      simp only
      generalize hr : s1.arrs[(f.res s).2.toNat] = r
      by_cases hx : x.toNat < r.length
      · simp only [hx, if_true, bindR, List.getElem?_eq_getElem hl, hr, Option.bind_some]
        rw [List.getElem?_eq_getElem hx]
        exact Tot.const fun a s e => by cases e; exact h6
      · simp only [hx, if_false, bindR]
        exact Tot.const fun a s e => by cases e
    · obtain ⟨q1, q2, g, hg, q3⟩ := w4 h4
      refine Tot.succ (f := fun n => evC cx (n + 1) f.res ow (f.res s).2 l st) ?_ fun n => rfl
      simp only [evC, if_neg (show ¬ (f.res s).2 < 0 by omega), hg, if_neg (show ¬ g.words < l.length by omega)]
      refine Tot.bind (ihA l (by omega) wl ow st t ho hF) (mA _ _ _ _ _) (fun a s => Mono.bind (Mono.const _) fun _ _ => Mono.bind (mL _ _ _ _ _) fun _ _ => Mono.const _) fun vs s1 h6 => ?_
      refine Tot.bind (P := fun _ s => Fm nv na t s) (Tot.const fun a s e => ?_) (Mono.const _) (fun _ _ => Mono.bind (mL _ _ _ _ _) fun _ _ => Mono.const _) fun _ s2 h7 => ?_
      · unfold tickR at e
        split at e
        · cases e
        · cases e; exact ⟨h6.1.v, h6.1.a, by have := h6.1.t; simp only; omega⟩
      · refine Tot.bind (hb _ (by omega) g hg _ s2 (by simp [h6.2]; omega) h7.v h7.a) (mL _ _ _ _ _) (fun _ _ => Mono.const _) fun r s3 h8 => ?_
        exact Tot.const fun a s e => by cases e; exact h8.trans h7.t
    · unfold getR at e
      split at e
      · cases e; exact ⟨hF.v, hF.a, hF.t⟩
      · cases e; exact hF
    · have h0 : 1 ≤ l.length := by
        by_cases h7 : k = 7
        · exact w7 h7
        · have := w6 h1 h2 h3 h4 h5 h7; omega
      obtain ⟨a, ha⟩ := get (j := 0) (by omega)
      simp only [ha]
      refine Tot.ite (fun h7 => ?_) fun h7 => ?_
      · refine Tot.bind (kid ha st t hF) (mE _ _ _ _ _) (fun _ _ => Mono.const _) fun x s1 h6 => ?_
        exact Tot.const fun a s e => by cases e; exact h6
      · obtain ⟨b, hb'⟩ := get (j := 1) (by have := w6 h1 h2 h3 h4 h5 h7; omega)
        simp only [hb']
        refine Tot.ite (fun h6 => ?_) fun h6 => ?_
        · refine Tot.bind (kid ha st t hF) (mE _ _ _ _ _) (fun _ _ => Mono.bind (mE _ _ _ _ _) fun _ _ => Mono.const _) fun x s1 h8 => ?_
          refine Tot.bind (kid hb' s1 t h8) (mE _ _ _ _ _) (fun _ _ => Mono.const _) fun y s2 h9 => ?_
          split
          · exact Tot.const fun a s e => by cases e; exact h9
          · exact Tot.const fun a s e => by cases e
        · refine Tot.bind (kid ha st t hF) (mE _ _ _ _ _) (fun _ _ => Mono.ite (Mono.const _) (mE _ _ _ _ _)) fun x s1 h8 => ?_
          exact Tot.ite (fun _ => Tot.const fun a s e => by cases e; exact h8) fun _ => kid hb' s1 t h8
end
end Go.Al
