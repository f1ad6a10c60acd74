/- Chapter 15: a program's text that is cut ahead of a token. -/
import Derived.Test.YtlpeikljipknoaaDoorBms
set_option linter.unusedSimpArgs false
set_option linter.unusedVariables false
set_option maxRecDepth 10000
namespace Go.Proofs.YtlpeikljipknoaaDoor
open Go.Al
section
variable {T : List Tok} {c : Nat}
def Ed {α : Type} (c : Nat) (y : PR α) : Prop := y = .bad c ∨ ∃ b, y = .ok b c
structure Rl {α : Type} (c : Nat) (x y : PR α) : Prop where
  same : ∀ a m, x = .ok a m → m ≤ c → y = .ok a m
  over : ∀ a m, x = .ok a m → c < m → Ed c y
theorem Rl.ok {α : Type} (a : α) {m : Nat} (h : m ≤ c) : Rl c (.ok a m) (.ok a m) := ⟨fun _ _ e _ => e, fun _ _ e h2 => by cases e; omega⟩
theorem Rl.bad {α : Type} (m : Nat) (y : PR α) : Rl c (.bad m : PR α) y := ⟨fun _ _ e _ => (by cases e), fun _ _ e h2 => (by cases e)⟩
theorem Rl.bind {α β : Type} {x y : PR α} {f g : α → Nat → PR β} (h : Rl c x y) (hm : ∀ a m r m', x = .ok a m → f a m = .ok r m' → m ≤ m') (hf : ∀ a m, x = .ok a m → m ≤ c → Rl c (f a m) (g a m)) (he : ∀ b, Ed c (g b c)) : Rl c (x.bind f) (y.bind g) := by
  refine ⟨fun r m' e hle => ?_, fun r m' e hlt => ?_⟩
  · obtain ⟨a, m, h1, h2⟩ := PR.bind_eq_ok e
    have := hm a m r m' h1 h2
    rw [h.same a m h1 (by omega), PR.bind_ok]
    exact (hf a m h1 (by omega)).same r m' h2 hle
  · obtain ⟨a, m, h1, h2⟩ := PR.bind_eq_ok e
    rcases Nat.lt_or_ge c m with hc | hc
    · rcases h.over a m h1 hc with e1 | ⟨b, e1⟩ <;> rw [e1]
      · exact .inl rfl
      · exact he b
    · rw [h.same a m h1 hc, PR.bind_ok]
      exact (hf a m h1 hc).over r m' h2 hlt
theorem Rl.ite {α : Type} {p : Prop} [Decidable p] {q : Prop} [Decidable q] {x x' y y' : PR α} (h : p ↔ q) (h1 : p → Rl c x y) (h2 : ¬ p → Rl c x' y') : Rl c (if p then x else x') (if q then y else y') := by
  by_cases hp : p
  · rw [if_pos hp, if_pos (h.1 hp)]; exact h1 hp
  · rw [if_neg hp, if_neg fun hq => hp (h.2 hq)]; exact h2 hp
theorem tk_get {n : Nat} (hn : n < c) : (T.take c)[n]? = T[n]? := List.getElem?_take_of_lt hn
theorem tk_peek {n : Nat} (hn : n < c) : peekI (T.take c) n = peekI T n := by unfold peekI; rw [tk_get hn]
theorem tk_kind {n : Nat} (hn : n < c) : kindI (T.take c) n = kindI T n := by unfold kindI; rw [tk_get hn]
theorem tk_none : (T.take c)[c]? = none := List.getElem?_eq_none (by rw [List.length_take]; omega)
theorem tk_peek0 : peekI (T.take c) c = [] := by unfold peekI; rw [tk_none]
theorem tk_kind0 : kindI (T.take c) c = 0 := by unfold kindI; rw [tk_none]
theorem tk_must0 {s : Str} (hs : s ≠ []) : mustI (T.take c) s c = .bad c := by unfold mustI; rw [tk_peek0, if_neg fun e => hs e.symm]
theorem tk_take0 (k : Int) : takeI (T.take c) k c = .bad c := by unfold takeI; rw [tk_none]
theorem rl_must {s : Str} (hs : s ≠ []) {n : Nat} (hn : n ≤ c) : Rl c (mustI T s n) (mustI (T.take c) s n) := by
  by_cases hlt : n < c
  · have : mustI (T.take c) s n = mustI T s n := by unfold mustI; rw [tk_peek hlt]
    rw [this]
    refine ⟨fun _ _ e _ => e, fun a m e h => ?_⟩
    have := must_ok e hs
    omega
  · obtain rfl : n = c := by omega
    rw [tk_must0 hs]
    refine ⟨fun a m e h => ?_, fun a m e h => .inl rfl⟩
    have := must_ok e hs
    omega
theorem rl_take {k : Int} {n : Nat} (hn : n ≤ c) : Rl c (takeI T k n) (takeI (T.take c) k n) := by
  by_cases hlt : n < c
  · have : takeI (T.take c) k n = takeI T k n := by unfold takeI; rw [tk_get hlt]
    rw [this]
    refine ⟨fun _ _ e _ => e, fun a m e h => ?_⟩
    have := take_ok e
    omega
  · obtain rfl : n = c := by omega
    rw [tk_take0]
    refine ⟨fun a m e h => ?_, fun a m e h => .inl rfl⟩
    have := take_ok e
    omega
/-! where the tokens end -/
theorem ed_bad {α : Type} : Ed c (.bad c : PR α) := .inl rfl
theorem ed_ok {α : Type} (a : α) : Ed c (.ok a c) := .inr ⟨a, rfl⟩
theorem ed_must {α : Type} {s : Str} (hs : s ≠ []) (f : Unit → Nat → PR α) : Ed c ((mustI (T.take c) s c).bind f) := by rw [tk_must0 hs]; exact ed_bad
theorem ed_take {α : Type} (k : Int) (f : Tok → Nat → PR α) : Ed c ((takeI (T.take c) k c).bind f) := by rw [tk_take0]; exact ed_bad
theorem atom0 : atomP (T.take c) c = .bad c := by
  rw [atomP_eq, tk_kind0, if_neg (by decide), tk_peek0, if_neg (by decide), if_neg (by decide), if_neg (by decide), tk_take0]; rfl
theorem expr0 {lo : Nat} (hl : 1 ≤ lo) : exprP (T.take c) lo c = .bad c := by rw [exprP_eq _ _ _ hl, atom0]; rfl
theorem loop0 {lo : Nat} (hl : 1 ≤ lo) (e : Ex) : loopP (T.take c) lo e c = .ok e c := by rw [loopP_eq _ _ _ _ hl, tk_peek0, if_pos (by rw [sg_nil]; exact hl)]
theorem args0 : argsP (T.take c) c = .bad c := by rw [argsP_eq, tk_peek0, if_neg (by decide), expr0 (Nat.le_refl 1)]; rfl
theorem argl0 (acc : List Ex) : arglP (T.take c) acc c = .bad c := by rw [arglP_eq, tk_peek0, if_neg (by decide), tk_must0 (by decide)]; rfl
theorem peek_iff {n : Nat} (hn : n < c) (s : Str) : peekI T n = s ↔ peekI (T.take c) n = s := by rw [tk_peek hn]
theorem Rl.at {α : Type} {s : Str} (hs : s ≠ []) {n : Nat} (hn : n ≤ c) {x x' y y' : PR α} (h1 : n < c → peekI T n = s → Rl c x y) (hp : n = c → ∀ a m, x = .ok a m → c < m) (he : n = c → Ed c y') (h2 : ¬ peekI T n = s → Rl c x' y') :
    Rl c (if peekI T n = s then x else x') (if peekI (T.take c) n = s then y else y') := by
  by_cases hlt : n < c
  · exact Rl.ite (peek_iff hlt s) (h1 hlt) h2
  · obtain rfl : n = c := by omega
    rw [tk_peek0, if_neg (show ¬ ([] : Str) = s from fun e => hs e.symm)]
    by_cases hpk : peekI T n = s
    · rw [if_pos hpk]
      exact ⟨fun a m e h => by have := hp rfl a m e; omega, fun a m e h => he rfl⟩
    · rw [if_neg hpk]; exact h2 hpk
theorem ed_not {α : Type} {s : Str} (hs : s ≠ []) {y y' : PR α} (h : Ed c y') : Ed c (if peekI (T.take c) c = s then y else y') := by
  rw [tk_peek0, if_neg (show ¬ ([] : Str) = s from fun e => hs e.symm)]; exact h
theorem rl_exprs (hc : c ≤ T.length) (f : Nat) : (∀ n, n ≤ c → Rl c (atomI T f n) (atomP (T.take c) n)) ∧ (∀ lo n, 1 ≤ lo → n ≤ c → Rl c (exprI T f lo n) (exprP (T.take c) lo n)) ∧
    (∀ lo e n, 1 ≤ lo → n ≤ c → Rl c (loopI T f lo e n) (loopP (T.take c) lo e n)) ∧ (∀ n, n ≤ c → Rl c (argsI T f n) (argsP (T.take c) n)) ∧ (∀ acc n, n ≤ c → Rl c (arglI T f acc n) (arglP (T.take c) acc n)) := by
  induction f with
  | zero => exact ⟨fun _ _ => by rw [atomI]; exact .bad _ _, fun _ _ _ _ => by rw [exprI]; exact .bad _ _, fun _ _ _ _ _ => by rw [loopI]; exact .bad _ _, fun _ _ => by rw [argsI]; exact .bad _ _, fun _ _ _ => by rw [arglI]; exact .bad _ _⟩
  | succ f ih =>
    obtain ⟨i1, i2, i3, i4, i5⟩ := ih
    obtain ⟨g1, g2, g3, g4, g5⟩ := far (T := T) f
    have m1 : ∀ {s : Str} {n a : Nat} {u : Unit}, mustI T s n = .ok u a → s ≠ [] → a = n + 1 := fun h hs => (must_ok h hs).1
    refine ⟨fun n hn => ?_, fun lo n hl hn => ?_, fun lo e n hl hn => ?_, fun n hn => ?_, fun acc n hn => ?_⟩
    · by_cases hlt : n < c
      · rw [atomI, atomP_eq]
        refine Rl.ite (by rw [tk_kind hlt]) (fun _ => ?_) fun _ => ?_
        · refine Rl.bind (rl_take hn) (fun a m r m' e1 e2 => by cases e2; omega) (fun a m e1 h => .ok _ h) fun b => ed_ok _
        refine Rl.ite (peek_iff hlt _) (fun _ => ?_) fun _ => ?_
        · refine Rl.bind (rl_must (by decide) hlt) (fun a m r m' e1 e2 => ?_) (fun a m e1 h => ?_) fun b => ed_must (by decide) _
          · obtain ⟨_, a', h3, h4⟩ := PR.bind_eq_ok e2
            have := m1 h3 (by decide)
            cases h4; omega
          · refine Rl.bind (rl_must (by decide) h) (fun a m r m' e1 e2 => by cases e2; omega) (fun a m e1 h => .ok _ h) fun b => ed_ok _
        refine Rl.ite (peek_iff hlt _) (fun _ => ?_) fun _ => ?_
        · refine Rl.bind (i2 1 _ (Nat.le_refl 1) hlt) (fun a m r m' e1 e2 => ?_) (fun a m e1 h => ?_) fun b => ed_must (by decide) _
          · obtain ⟨_, a', h3, h4⟩ := PR.bind_eq_ok e2
            have := m1 h3 (by decide)
            cases h4; omega
          · refine Rl.bind (rl_must (by decide) h) (fun a m r m' e1 e2 => by cases e2; omega) (fun a m e1 h => .ok _ h) fun b => ed_ok _
        refine Rl.ite (peek_iff hlt _) (fun _ => ?_) fun _ => ?_
        · refine Rl.bind (i1 _ hlt) (fun a m r m' e1 e2 => by cases e2; omega) (fun a m e1 h => .ok _ h) fun b => ed_ok _
        refine Rl.bind (rl_take hn) (fun a m r m' e1 e2 => ?_) (fun t m e1 h => ?_) fun b => ?_
        · split at e2
          · obtain ⟨x, a', h3, h4⟩ := PR.bind_eq_ok e2
            obtain ⟨_, a2, h5, h6⟩ := PR.bind_eq_ok h4
            have := g2 _ _ _ _ h3
            have := m1 h5 (by decide)
            cases h6; omega
          split at e2
          · obtain ⟨x, a', h3, h4⟩ := PR.bind_eq_ok e2
            have := g4 _ _ _ h3
            cases h4; omega
          · cases e2; omega
        · refine Rl.at (by decide) h (fun hm _ => ?_) (fun em a m' e2 => ?_) (fun e => by subst e; exact ed_not (by decide) (ed_ok _)) fun _ => ?_
          · refine Rl.bind (i2 1 _ (Nat.le_refl 1) hm) (fun a m r m' e1 e2 => ?_) (fun a m e1 h => ?_) fun b => ed_must (by decide) _
            · obtain ⟨_, a', h3, h4⟩ := PR.bind_eq_ok e2
              have := m1 h3 (by decide)
              cases h4; omega
            · refine Rl.bind (rl_must (by decide) h) (fun a m r m' e1 e2 => by cases e2; omega) (fun a m e1 h => .ok _ h) fun b => ed_ok _
          · obtain ⟨x, a', h3, h4⟩ := PR.bind_eq_ok e2
            obtain ⟨_, a2, h5, h6⟩ := PR.bind_eq_ok h4
            have := g2 _ _ _ _ h3
            have := m1 h5 (by decide)
            cases h6; omega
          refine Rl.at (by decide) h (fun hm _ => ?_) (fun em a m' e2 => ?_) (fun e => by subst e; exact ed_ok _) fun _ => .ok _ h
          · refine Rl.bind (i4 _ hm) (fun a m r m' e1 e2 => by cases e2; omega) (fun a m e1 h => .ok _ h) fun b => ed_ok _
          · obtain ⟨x, a', h3, h4⟩ := PR.bind_eq_ok e2
            have := g4 _ _ _ h3
            cases h4; omega
        · exact ed_not (by decide) (ed_not (by decide) (ed_ok _))
      · obtain rfl : n = c := by omega
        rw [atom0]
        exact ⟨fun a m e h => by have := (far (T := T) (f + 1)).1 _ _ _ e; omega, fun a m e h => ed_bad⟩
    · rw [exprI, exprP_eq _ _ _ hl]
      refine Rl.bind (i1 n hn) (fun a m r m' e1 e2 => ?_) (fun a m e1 h => i3 lo a m hl h) fun b => by rw [loop0 hl]; exact ed_ok _
      have := g1 _ _ _ e1
      exact (g3 _ _ _ _ _ this.2 e2).1
    · by_cases hlt : n < c
      · rw [loopI, loopP_eq _ _ _ _ hl, tk_peek hlt]
        refine Rl.ite (Iff.rfl) (fun _ => .ok _ hn) fun _ => ?_
        refine Rl.bind (i2 _ _ (by omega) hlt) (fun a m r m' e1 e2 => ?_) (fun a m e1 h => i3 lo _ m hl h) fun b => by rw [loop0 hl]; exact ed_ok _
        have := g2 _ _ _ _ e1
        exact (g3 _ _ _ _ _ this.2 e2).1
      · obtain rfl : n = c := by omega
        rw [loop0 hl, loopI]
        refine ⟨fun a m e' h => ?_, fun a m e' h => ed_ok _⟩
        split at e'
        · exact e'
        · obtain ⟨x, a', h3, h4⟩ := PR.bind_eq_ok e'
          have := g2 _ _ _ _ h3
          have := g3 _ _ _ _ _ this.2 h4
          omega
    · by_cases hlt : n < c
      · rw [argsI, argsP_eq]
        refine Rl.ite (peek_iff hlt _) (fun _ => .ok _ hlt) fun _ => ?_
        refine Rl.bind (i2 1 _ (Nat.le_refl 1) hn) (fun a m r m' e1 e2 => ?_) (fun a m e1 h => i5 _ m h) fun b => by rw [argl0]; exact ed_bad
        have := g5 _ _ _ _ e2
        omega
      · obtain rfl : n = c := by omega
        rw [args0]
        exact ⟨fun a m e h => by have := (far (T := T) (f + 1)).2.2.2.1 _ _ _ e; omega, fun a m e h => ed_bad⟩
    · by_cases hlt : n < c
      · rw [arglI, arglP_eq]
        refine Rl.ite (peek_iff hlt _) (fun _ => ?_) fun _ => ?_
        · refine Rl.bind (i2 1 _ (Nat.le_refl 1) hlt) (fun a m r m' e1 e2 => ?_) (fun a m e1 h => i5 _ m h) fun b => by rw [argl0]; exact ed_bad
          have := g5 _ _ _ _ e2
          omega
        · refine Rl.bind (rl_must (by decide) hn) (fun a m r m' e1 e2 => by cases e2; omega) (fun a m e1 h => .ok _ h) fun b => ed_ok _
      · obtain rfl : n = c := by omega
        rw [argl0]
        exact ⟨fun a m e h => by have := (far (T := T) (f + 1)).2.2.2.2 _ _ _ _ e; omega, fun a m e h => ed_bad⟩
theorem rl_expr (hc : c ≤ T.length) {lo n : Nat} (hl : 1 ≤ lo) (hn : n ≤ c) : Rl c (exprP T lo n) (exprP (T.take c) lo n) := (rl_exprs hc _).2.1 lo n hl hn
theorem rl_args (hc : c ≤ T.length) {n : Nat} (hn : n ≤ c) : Rl c (argsP T n) (argsP (T.take c) n) := (rl_exprs hc _).2.2.2.1 n hn
end
end Go.Proofs.YtlpeikljipknoaaDoor
