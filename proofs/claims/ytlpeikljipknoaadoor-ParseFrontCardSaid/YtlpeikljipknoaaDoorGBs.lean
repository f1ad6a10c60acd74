/- Chapter 15: a program's text that is cut ahead of a token: statements, functions, programs. -/
import Derived.Test.YtlpeikljipknoaaDoorGBr
set_option linter.unusedSimpArgs false
set_option linter.unusedVariables false
set_option maxRecDepth 10000
namespace Go.Proofs.YtlpeikljipknoaaDoor
open Go.Al
section
variable {T : List Tok} {c : Nat}
theorem round0 : roundP (T.take c) c = .bad c := by unfold roundP; rw [tk_must0 (by decide)]; rfl
theorem named0 : namedP (T.take c) c = .bad c := by unfold namedP; rw [tk_take0]; rfl
theorem stmt0 : stmtP (T.take c) c = .bad c := by
  rw [stmtP_eq, tk_peek0, if_neg (by decide), if_neg (by decide), if_neg (by decide), if_neg (by decide), named0]
theorem body0 : bodyP (T.take c) c = .bad c := by rw [bodyP_eq, tk_must0 (by decide)]; rfl
theorem stmts0 (acc : List Sm) : stmtsP (T.take c) acc c = .bad c := by rw [stmtsP_eq, tk_peek0, if_neg (by decide), stmt0]; rfl
theorem nm0 (acc : List Str) : nmP (T.take c) acc c = .ok acc c := by rw [nmP_eq, tk_peek0, if_neg (by decide)]
theorem names0 : namesP (T.take c) c = .bad c := by unfold namesP; rw [tk_take0]; rfl
theorem loc0 (acc : List Str) : locP (T.take c) acc c = .ok acc c := by rw [locP_eq, tk_peek0, if_neg (by decide)]
theorem fun0 : funP (T.take c) c = .bad c := by unfold funP; rw [tk_must0 (by decide)]; rfl
theorem head0 (vs : List Str) (l : List Ar) : headP (T.take c) vs l c = .ok (vs, l) c := by rw [headP_eq, tk_peek0, if_neg (by decide), if_neg (by decide)]
theorem nn {s : Str} (h : s ≠ []) : ¬ ([] : Str) = s := fun e => h e.symm
theorem m1 {s : Str} {n a : Nat} {u : Unit} (h : mustI T s n = .ok u a) (hs : s ≠ []) : n ≤ a := by have := (must_ok h hs).1; omega
theorem rl_round (hc : c ≤ T.length) {n : Nat} (hn : n ≤ c) : Rl c (roundP T n) (roundP (T.take c) n) := by
  unfold roundP
  refine Rl.bind (rl_must (by decide) hn) (fun a m r m' e1 e2 => ?_) (fun a m e1 h => ?_) fun b => by rw [expr0 (Nat.le_refl 1)]; exact ed_bad
  · obtain ⟨x, a', h3, h4⟩ := PR.bind_eq_ok e2
    obtain ⟨_, a2, h5, h6⟩ := PR.bind_eq_ok h4
    have := exprP_far h3
    have := m1 h5 (by decide)
    cases h6; omega
  refine Rl.bind (rl_expr hc (Nat.le_refl 1) h) (fun a m r m' e1 e2 => ?_) (fun a m e1 h => ?_) fun b => ed_must (by decide) _
  · obtain ⟨_, a2, h5, h6⟩ := PR.bind_eq_ok e2
    have := m1 h5 (by decide)
    cases h6; omega
  exact Rl.bind (rl_must (by decide) h) (fun a m r m' e1 e2 => by cases e2; omega) (fun a m e1 h => .ok _ h) fun b => ed_ok _
theorem rl_named (hc : c ≤ T.length) {n : Nat} (hn : n ≤ c) : Rl c (namedP T n) (namedP (T.take c) n) := by
  unfold namedP
  refine Rl.bind (rl_take hn) (fun t m r m' e1 e2 => ?_) (fun t m e1 h => ?_) fun b => ?_
  · obtain ⟨x, a', h3, h4⟩ := PR.bind_eq_ok e2
    obtain ⟨_, a2, h5, h6⟩ := PR.bind_eq_ok h4
    have := m1 h5 (by decide)
    have : m ≤ a' := by
      split at h3
      · obtain ⟨y, b, g1, g2⟩ := PR.bind_eq_ok h3
        have := exprP_far g1
        cases g2; omega
      split at h3
      · obtain ⟨y, b, g1, g2⟩ := PR.bind_eq_ok h3
        obtain ⟨_, b2, g3, g4⟩ := PR.bind_eq_ok g2
        obtain ⟨_, b3, g5, g6⟩ := PR.bind_eq_ok g4
        obtain ⟨z, b4, g7, g8⟩ := PR.bind_eq_ok g6
        have := exprP_far g1
        have := m1 g3 (by decide)
        have := m1 g5 (by decide)
        have := exprP_far g7
        cases g8; omega
      split at h3
      · obtain ⟨y, b, g1, g2⟩ := PR.bind_eq_ok h3
        have := argsP_far g1
        cases g2; omega
      · cases h3
    cases h6; omega
  · refine Rl.bind ?_ (fun a m r m' e1 e2 => ?_) (fun a m e1 h => ?_) fun b => ed_must (by decide) _
    · by_cases hlt : m < c
      · refine Rl.ite (peek_iff hlt _) (fun _ => ?_) fun _ => ?_
        · exact Rl.bind (rl_expr hc (Nat.le_refl 1) hlt) (fun a m r m' e1 e2 => by cases e2; omega) (fun a m e1 h => .ok _ h) fun b => ed_ok _
        refine Rl.ite (peek_iff hlt _) (fun _ => ?_) fun _ => ?_
        · refine Rl.bind (rl_expr hc (Nat.le_refl 1) hlt) (fun a m r m' e1 e2 => ?_) (fun a m e1 h => ?_) fun b => ed_must (by decide) _
          · obtain ⟨_, b3, g5, g6⟩ := PR.bind_eq_ok e2
            obtain ⟨_, b4, g7, g8⟩ := PR.bind_eq_ok g6
            obtain ⟨z, b5, g9, g10⟩ := PR.bind_eq_ok g8
            have := m1 g5 (by decide)
            have := m1 g7 (by decide)
            have := exprP_far g9
            cases g10; omega
          refine Rl.bind (rl_must (by decide) h) (fun a m r m' e1 e2 => ?_) (fun a m e1 h => ?_) fun b => ed_must (by decide) _
          · obtain ⟨_, b4, g7, g8⟩ := PR.bind_eq_ok e2
            obtain ⟨z, b5, g9, g10⟩ := PR.bind_eq_ok g8
            have := m1 g7 (by decide)
            have := exprP_far g9
            cases g10; omega
          refine Rl.bind (rl_must (by decide) h) (fun a m r m' e1 e2 => ?_) (fun a m e1 h => ?_) fun b => by rw [expr0 (Nat.le_refl 1)]; exact ed_bad
          · obtain ⟨z, b5, g9, g10⟩ := PR.bind_eq_ok e2
            have := exprP_far g9
            cases g10; omega
          exact Rl.bind (rl_expr hc (Nat.le_refl 1) h) (fun a m r m' e1 e2 => by cases e2; omega) (fun a m e1 h => .ok _ h) fun b => ed_ok _
        refine Rl.ite (peek_iff hlt _) (fun _ => ?_) fun _ => .bad _ _
        exact Rl.bind (rl_args hc hlt) (fun a m r m' e1 e2 => by cases e2; omega) (fun a m e1 h => .ok _ h) fun b => ed_ok _
      · obtain rfl : m = c := by omega
        rw [tk_peek0, if_neg (nn (s := [61]) (by decide)), if_neg (nn (s := [91]) (by decide)), if_neg (nn (s := [40]) (by decide))]
        refine ⟨fun a m' e hle => ?_, fun a m' e h => ed_bad⟩
        exfalso
        split at e
        · obtain ⟨y, b, g1, g2⟩ := PR.bind_eq_ok e
          have := exprP_far g1
          cases g2; omega
        split at e
        · obtain ⟨y, b, g1, g2⟩ := PR.bind_eq_ok e
          obtain ⟨_, b2, g3, g4⟩ := PR.bind_eq_ok g2
          obtain ⟨_, b3, g5, g6⟩ := PR.bind_eq_ok g4
          obtain ⟨z, b4, g7, g8⟩ := PR.bind_eq_ok g6
          have := exprP_far g1
          have := m1 g3 (by decide)
          have := m1 g5 (by decide)
          have := exprP_far g7
          cases g8; omega
        split at e
        · obtain ⟨y, b, g1, g2⟩ := PR.bind_eq_ok e
          have := argsP_far g1
          cases g2; omega
        · cases e
    · obtain ⟨_, a2, h5, h6⟩ := PR.bind_eq_ok e2
      have := m1 h5 (by decide)
      cases h6; omega
    · exact Rl.bind (rl_must (by decide) h) (fun a m r m' e1 e2 => by cases e2; omega) (fun a m e1 h => .ok _ h) fun b => ed_ok _
  · rw [tk_peek0, if_neg (by decide), if_neg (by decide), if_neg (by decide)]; exact ed_bad
def Rs {α : Type} (c : Nat) (x y : PR α) : Prop := ∀ a m, x = .ok a m → (m ≤ c → y = .ok a m) ∧ (c < m → y = .bad c)
theorem Rs.rl {α : Type} {x y : PR α} (h : Rs c x y) : Rl c x y := ⟨fun a m e h2 => (h a m e).1 h2, fun a m e h2 => .inl ((h a m e).2 h2)⟩
theorem Rl.bindS {α β : Type} {x y : PR α} {f g : α → Nat → PR β} (h : Rl c x y) (hm : ∀ a m r m', x = .ok a m → f a m = .ok r m' → m ≤ m') (hf : ∀ a m, x = .ok a m → m ≤ c → Rs c (f a m) (g a m)) (he : ∀ b, g b c = .bad c) : Rs c (x.bind f) (y.bind g) := by
  intro r m' e
  obtain ⟨a, m, h1, h2⟩ := PR.bind_eq_ok e
  have hmm := hm a m r m' h1 h2
  rcases Nat.lt_or_ge c m with hc | hc
  · refine ⟨fun h3 => by omega, fun h3 => ?_⟩
    rcases h.over a m h1 hc with e1 | ⟨b, e1⟩ <;> rw [e1]
    · rfl
    · exact he b
  · rw [h.same a m h1 hc, PR.bind_ok]
    exact hf a m h1 hc r m' h2
theorem Rs.ok {α : Type} (a : α) {m : Nat} (h : m ≤ c) : Rs c (.ok a m) (.ok a m) := fun _ _ e => by cases e; exact ⟨fun _ => rfl, fun h2 => by omega⟩
theorem rs_must {s : Str} (hs : s ≠ []) {n : Nat} (hn : n ≤ c) : Rs c (mustI T s n) (mustI (T.take c) s n) := by
  intro a m e
  have hm := must_ok e hs
  by_cases hlt : n < c
  · have : mustI (T.take c) s n = mustI T s n := by unfold mustI; rw [tk_peek hlt]
    rw [this]
    exact ⟨fun _ => e, fun h => by omega⟩
  · obtain rfl : n = c := by omega
    rw [tk_must0 hs]
    exact ⟨fun h => by omega, fun _ => rfl⟩
theorem rl_stmts (hc : c ≤ T.length) (f : Nat) : (∀ n, n ≤ c → Rl c (stmtI T f n) (stmtP (T.take c) n)) ∧ (∀ n, n ≤ c → Rs c (bodyI T f n) (bodyP (T.take c) n)) ∧ (∀ acc n, n ≤ c → Rs c (stmtsI T f acc n) (stmtsP (T.take c) acc n)) := by
  induction f with
  | zero => exact ⟨fun _ _ => by rw [stmtI]; exact .bad _ _, fun _ _ => by rw [bodyI]; exact (fun a m e => by cases e), fun _ _ _ => by rw [stmtsI]; exact (fun a m e => by cases e)⟩
  | succ f ih =>
    obtain ⟨i1, i2, i3⟩ := ih
    obtain ⟨g1, g2, g3⟩ := farS (T := T) f
    refine ⟨fun n hn => ?_, fun n hn => ?_, fun acc n hn => ?_⟩
    · by_cases hlt : n < c
      · rw [stmtI, stmtP_eq]
        refine Rl.ite (peek_iff hlt _) (fun _ => ?_) fun _ => ?_
        · refine Rl.bind (rl_round hc hlt) (fun a m r m' e1 e2 => ?_) (fun a m e1 h => ?_) fun b => ed_must (by decide) _
          · obtain ⟨_, a2, h5, h6⟩ := PR.bind_eq_ok e2
            have := m1 h5 (by decide)
            cases h6; omega
          exact Rl.bind (rl_must (by decide) h) (fun a m r m' e1 e2 => by cases e2; omega) (fun a m e1 h => .ok _ h) fun b => ed_ok _
        refine Rl.ite (peek_iff hlt _) (fun _ => ?_) fun _ => ?_
        · by_cases hlt2 : n + 1 < c
          · refine Rl.ite (peek_iff hlt2 _) (fun _ => .ok _ hlt2) fun _ => ?_
            refine Rl.bind (rl_expr hc (Nat.le_refl 1) hlt) (fun a m r m' e1 e2 => ?_) (fun a m e1 h => ?_) fun b => ed_must (by decide) _
            · obtain ⟨_, a2, h5, h6⟩ := PR.bind_eq_ok e2
              have := m1 h5 (by decide)
              cases h6; omega
            exact Rl.bind (rl_must (by decide) h) (fun a m r m' e1 e2 => by cases e2; omega) (fun a m e1 h => .ok _ h) fun b => ed_ok _
          · obtain rfl : c = n + 1 := by omega
            rw [tk_peek0, if_neg (nn (s := [59]) (by decide)), expr0 (Nat.le_refl 1)]
            refine ⟨fun a m e h => ?_, fun a m e h => ed_bad⟩
            exfalso
            split at e
            · cases e; omega
            · obtain ⟨x, a1, h3, h4⟩ := PR.bind_eq_ok e
              obtain ⟨_, a2, h5, h6⟩ := PR.bind_eq_ok h4
              have := exprP_far h3
              have := m1 h5 (by decide)
              cases h6; omega
        refine Rl.ite (peek_iff hlt _) (fun _ => ?_) fun _ => ?_
        · have hmm : ∀ {t : List Sm} {l : List Ex} {m m' : Nat} {r : Sm}, (if peekI T m = wElse then (bodyI T f (m + 1)).bind fun u m => .ok (.mk 4 [] l t u) m else .ok (.mk 4 [] l t []) m : PR Sm) = .ok r m' → m ≤ m' := by
            intro t l m m' r e2
            split at e2
            · obtain ⟨u, d, h5, h6⟩ := PR.bind_eq_ok e2
              have := g2 _ _ _ h5
              cases h6; omega
            · cases e2; omega
          refine Rl.bind (rl_round hc hlt) (fun a m r m' e1 e2 => ?_) (fun a m e1 h => ?_) fun b => by rw [body0]; exact ed_bad
          · obtain ⟨t, a2, h5, h6⟩ := PR.bind_eq_ok e2
            have := g2 _ _ _ h5
            have := hmm h6
            omega
          refine Rl.bind (i2 m h).rl (fun a m r m' e1 e2 => hmm e2) (fun t m e1 h => ?_) fun b => by rw [tk_peek0, if_neg (by decide)]; exact ed_ok _
          refine Rl.at (by decide) h (fun hm _ => ?_) (fun em a m' e2 => ?_) (fun e => by subst e; exact ed_ok _) fun _ => .ok _ h
          · exact Rl.bind (i2 _ hm).rl (fun a m r m' e1 e2 => by cases e2; omega) (fun a m e1 h => .ok _ h) fun b => ed_ok _
          · obtain ⟨u, d, h5, h6⟩ := PR.bind_eq_ok e2
            have := g2 _ _ _ h5
            cases h6; omega
        refine Rl.ite (peek_iff hlt _) (fun _ => ?_) fun _ => rl_named hc hn
        refine Rl.bind (rl_round hc hlt) (fun a m r m' e1 e2 => ?_) (fun a m e1 h => ?_) fun b => by rw [body0]; exact ed_bad
        · obtain ⟨t, a2, h5, h6⟩ := PR.bind_eq_ok e2
          have := g2 _ _ _ h5
          cases h6; omega
        exact Rl.bind (i2 m h).rl (fun a m r m' e1 e2 => by cases e2; omega) (fun a m e1 h => .ok _ h) fun b => ed_ok _
      · obtain rfl : n = c := by omega
        rw [stmt0]
        exact ⟨fun a m e h => by have := (farS (T := T) (f + 1)).1 _ _ _ e; omega, fun a m e h => ed_bad⟩
    · rw [bodyI, bodyP_eq]
      refine Rl.bindS (rl_must (by decide) hn) (fun a m r m' e1 e2 => ?_) (fun a m e1 h => i3 _ m h) fun b => stmts0 _
      have := g3 _ _ _ _ e2
      omega
    · by_cases hlt : n < c
      · rw [stmtsI, stmtsP_eq, tk_peek hlt]
        by_cases hp : peekI T n = [125]
        · rw [if_pos hp, if_pos hp]; exact Rs.ok _ hlt
        · rw [if_neg hp, if_neg hp]
          refine Rl.bindS (i1 n hn) (fun a m r m' e1 e2 => ?_) (fun a m e1 h => i3 _ m h) fun b => stmts0 _
          have := g3 _ _ _ _ e2
          omega
      · obtain rfl : n = c := by omega
        rw [stmts0]
        exact fun a m e => ⟨fun h => by have := (farS (T := T) (f + 1)).2.2 _ _ _ _ e; omega, fun h => rfl⟩
theorem rs_stmts (hc : c ≤ T.length) {acc : List Sm} {n : Nat} (hn : n ≤ c) : Rs c (stmtsP T acc n) (stmtsP (T.take c) acc n) := (rl_stmts hc _).2.2 acc n hn
theorem rl_nm (f : Nat) : ∀ acc n, n ≤ c → Rl c (nmI T f acc n) (nmP (T.take c) acc n) := by
  induction f with
  | zero => intro _ _ _; rw [nmI]; exact .bad _ _
  | succ f ih =>
    intro acc n hn
    have key : ∀ (f : Nat) acc n l m, nmI T f acc n = .ok l m → n ≤ m := by
      intro f
      induction f with
      | zero => intro _ _ _ _ h; simp [nmI] at h
      | succ f ih =>
        intro acc n l m h
        rw [nmI] at h
        split at h
        · obtain ⟨s, a, h1, h2⟩ := PR.bind_eq_ok h
          have := take_ok h1
          have := ih _ _ _ _ h2
          omega
        · cases h; omega
    rw [nmI, nmP_eq]
    refine Rl.at (by decide) hn (fun hm _ => ?_) (fun em a m' e2 => ?_) (fun h => by rw [h]; exact ed_ok _) fun _ => .ok _ hn
    · exact Rl.bind (rl_take hm) (fun a m r m' e1 e2 => key _ _ _ _ _ e2) (fun a m e1 h => ih _ m h) fun b => by rw [nm0]; exact ed_ok _
    · obtain ⟨x, a', h3, h4⟩ := PR.bind_eq_ok e2
      have := take_ok h3
      have := key _ _ _ _ _ h4
      omega
theorem rl_names {n : Nat} (hn : n ≤ c) : Rl c (namesP T n) (namesP (T.take c) n) := by
  unfold namesP
  refine Rl.bind (rl_take hn) (fun a m r m' e1 e2 => ?_) (fun a m e1 h => rl_nm _ _ m h) fun b => by rw [nm0]; exact ed_ok _
  have := take_ok e1
  have := nmP_far (by omega) e2
  omega
theorem rl_loc (f : Nat) : ∀ acc n, n ≤ c → Rl c (locI T f acc n) (locP (T.take c) acc n) := by
  induction f with
  | zero => intro _ _ _; rw [locI]; exact .bad _ _
  | succ f ih =>
    intro acc n hn
    have key : ∀ (f : Nat) acc n l m, locI T f acc n = .ok l m → n ≤ m := by
      intro f
      induction f with
      | zero => intro _ _ _ _ h; simp [locI] at h
      | succ f ih =>
        intro acc n l m h
        rw [locI] at h
        split at h
        · obtain ⟨s, a, h1, h2⟩ := PR.bind_eq_ok h
          obtain ⟨_, c, h3, h4⟩ := PR.bind_eq_ok h2
          have := namesP_far h1
          have := m1 h3 (by decide)
          have := ih _ _ _ _ h4
          omega
        · cases h; omega
    rw [locI, locP_eq]
    refine Rl.at (by decide) hn (fun hm _ => ?_) (fun em a m' e2 => ?_) (fun h => by rw [h]; exact ed_ok _) fun _ => .ok _ hn
    · refine Rl.bind (rl_names hm) (fun a m r m' e1 e2 => ?_) (fun a m e1 h => ?_) fun b => ed_must (by decide) _
      · obtain ⟨_, c, h3, h4⟩ := PR.bind_eq_ok e2
        have := m1 h3 (by decide)
        have := key _ _ _ _ _ h4
        omega
      exact Rl.bind (rl_must (by decide) h) (fun a m r m' e1 e2 => key _ _ _ _ _ e2) (fun a m e1 h => ih _ m h) fun b => by rw [loc0]; exact ed_ok _
    · obtain ⟨x, a', h3, h4⟩ := PR.bind_eq_ok e2
      obtain ⟨_, a2, h5, h6⟩ := PR.bind_eq_ok h4
      have := namesP_far h3
      have := m1 h5 (by decide)
      have := key _ _ _ _ _ h6
      omega
theorem rs_fun (hc : c ≤ T.length) {n : Nat} (hn : n ≤ c) : Rs c (funP T n) (funP (T.take c) n) := by
  have far5 : ∀ {t : Tok} {ps : List Str} {w : Bool} {a r m'}, ((locP T [] a).bind fun ls c => (stmtsP T [] c).bind fun b c => (.ok ⟨t.text, ps, ls, w, b⟩ c : PR Fu)) = .ok r m' → a ≤ T.length → a ≤ m' := by
    intro t ps w a r m' h ha
    obtain ⟨ls, a7, h7, h⟩ := PR.bind_eq_ok h
    obtain ⟨b, a8, h8, h⟩ := PR.bind_eq_ok h
    have := locP_far ha h7
    have := stmtsP_far h8
    cases h; omega
  have far4 : ∀ {t : Tok} {ps : List Str} {a r m'}, ((mustI T [123] (if peekI T a = wWord then a + 1 else a)).bind fun _ c => (locP T [] c).bind fun ls c => (stmtsP T [] c).bind fun b c => (.ok ⟨t.text, ps, ls, decide (peekI T a = wWord), b⟩ c : PR Fu)) = .ok r m' → a ≤ m' := by
    intro t ps a r m' h
    obtain ⟨_, a6, h6, h⟩ := PR.bind_eq_ok h
    have h6' := must_ok h6 (by decide)
    have := far5 h (by omega)
    have : a ≤ a6 := by have := h6'.1; split at this <;> omega
    omega
  have far3 : ∀ {t : Tok} {a r m'}, ((if kindI T a = 1 then namesP T a else .ok [] a : PR (List Str)).bind fun ps m => (mustI T [41] m).bind fun _ m =>
    (mustI T [123] (if peekI T m = wWord then m + 1 else m)).bind fun _ c => (locP T [] c).bind fun ls c => (stmtsP T [] c).bind fun b c => (.ok ⟨t.text, ps, ls, decide (peekI T m = wWord), b⟩ c : PR Fu)) = .ok r m' → a ≤ m' := by
    intro t a r m' h
    obtain ⟨ps, a4, h4, h⟩ := PR.bind_eq_ok h
    obtain ⟨_, a5, h5, h⟩ := PR.bind_eq_ok h
    have := m1 h5 (by decide)
    have := far4 h
    have : a ≤ a4 := by
      split at h4
      · have := namesP_far h4; omega
      · cases h4; omega
    omega
  unfold funP
  refine Rl.bindS (rl_must (by decide) hn) (fun a m r m' e1 e2 => ?_) (fun a m e1 h => ?_) fun b => by rw [tk_take0]; rfl
  · obtain ⟨t, a2, h2, h⟩ := PR.bind_eq_ok e2
    obtain ⟨_, a3, h3, h⟩ := PR.bind_eq_ok h
    have := take_ok h2
    have := m1 h3 (by decide)
    have := far3 h
    omega
  refine Rl.bindS (rl_take h) (fun a m r m' e1 e2 => ?_) (fun t m e1 h => ?_) fun b => by rw [tk_must0 (by decide)]; rfl
  · obtain ⟨_, a3, h3, h⟩ := PR.bind_eq_ok e2
    have := m1 h3 (by decide)
    have := far3 h
    omega
  have e41 : ∀ (g : Unit → Nat → PR Fu), (mustI (T.take c) [41] c).bind g = .bad c := fun g => by rw [tk_must0 (by decide)]; rfl
  refine Rl.bindS (rl_must (by decide) h) (fun a m r m' e1 e2 => far3 e2) (fun _ m e1 h => ?_) fun b => by rw [tk_kind0, if_neg (by decide), PR.bind_ok]; exact e41 _
  have hkk : Rl c (if kindI T m = 1 then namesP T m else .ok [] m : PR (List Str)) (if kindI (T.take c) m = 1 then namesP (T.take c) m else .ok [] m) := by
    by_cases hlt : m < c
    · exact Rl.ite (by rw [tk_kind hlt]) (fun _ => rl_names h) fun _ => .ok _ h
    · obtain rfl : m = c := by omega
      rw [tk_kind0, if_neg (show ¬ (0 : Int) = 1 by decide)]
      refine ⟨fun a m' e hle => ?_, fun a m' e h => ed_ok _⟩
      split at e
      · have := namesP_far e; omega
      · exact e
  refine Rl.bindS hkk (fun a m r m' e1 e2 => ?_) (fun ps m e1 h => ?_) fun b => e41 _
  · obtain ⟨_, a5, h5, h⟩ := PR.bind_eq_ok e2
    have := m1 h5 (by decide)
    have := far4 h
    omega
  have e123 : ∀ (g : Unit → Nat → PR Fu), (mustI (T.take c) [123] c).bind g = .bad c := fun g => by rw [tk_must0 (by decide)]; rfl
  refine Rl.bindS (rl_must (by decide) h) (fun a m r m' e1 e2 => far4 e2) (fun _ m e1 h => ?_) fun b => by rw [tk_peek0, if_neg (by decide)]; exact e123 _
  by_cases hlt : m < c
  · rw [tk_peek hlt]
    have hle : (if peekI T m = wWord then m + 1 else m) ≤ c := by split <;> omega
    refine Rl.bindS (rl_must (by decide) hle) (fun a m r m' e1 e2 => far5 e2 (by have := must_ok e1 (by decide); omega)) (fun _ m e1 h => ?_) fun b => by rw [loc0, PR.bind_ok, stmts0]; rfl
    refine Rl.bindS (rl_loc _ _ m h) (fun a m r m' e1 e2 => ?_) (fun ls m e1 h => ?_) fun b => by rw [stmts0]; rfl
    · obtain ⟨b, a8, h8, h⟩ := PR.bind_eq_ok e2
      have := stmtsP_far h8
      cases h; omega
    intro r m' e
    obtain ⟨b, a8, h8, h9⟩ := PR.bind_eq_ok e
    have hq := rs_stmts hc h b a8 h8
    cases h9
    exact ⟨fun h3 => by rw [hq.1 h3]; rfl, fun h3 => by rw [hq.2 h3]; rfl⟩
  · obtain rfl : m = c := by omega
    rw [tk_peek0, if_neg (nn (s := wWord) (by decide))]
    intro r m' e
    refine ⟨fun h3 => ?_, fun h3 => e123 _⟩
    exfalso
    have := far4 e
    obtain ⟨_, a6, h6, h⟩ := PR.bind_eq_ok e
    have h6' := must_ok h6 (by decide)
    have := far5 h (by omega)
    have : m < a6 := by have := h6'.1; split at this <;> omega
    omega
theorem rl_head (f : Nat) : ∀ vs l n, n ≤ c → Rl c (headI T f vs l n) (headP (T.take c) vs l n) := by
  induction f with
  | zero => intro _ _ _ _; rw [headI]; exact .bad _ _
  | succ f ih =>
    intro vs l n hn
    have key : ∀ (f : Nat) vs l n r m, headI T f vs l n = .ok r m → n ≤ m := by
      intro f
      induction f with
      | zero => intro _ _ _ _ _ h; simp [headI] at h
      | succ f ih =>
        intro vs l n r m h
        rw [headI] at h
        split at h
        · obtain ⟨s, a, h1, h2⟩ := PR.bind_eq_ok h
          obtain ⟨_, c, h3, h4⟩ := PR.bind_eq_ok h2
          have := namesP_far h1
          have := m1 h3 (by decide)
          have := ih _ _ _ _ _ h4
          omega
        split at h
        · obtain ⟨t, a1, h1, h⟩ := PR.bind_eq_ok h
          obtain ⟨_, a2, h2, h⟩ := PR.bind_eq_ok h
          obtain ⟨u, a3, h3, h⟩ := PR.bind_eq_ok h
          obtain ⟨_, a4, h4, h⟩ := PR.bind_eq_ok h
          obtain ⟨_, a5, h5, h⟩ := PR.bind_eq_ok h
          have := take_ok h1
          have := m1 h2 (by decide)
          have := take_ok h3
          have := m1 h4 (by decide)
          have := m1 h5 (by decide)
          have := ih _ _ _ _ _ h
          omega
        · cases h; omega
    rw [headI, headP_eq]
    refine Rl.at (by decide) hn (fun hm _ => ?_) (fun em a m' e2 => ?_) (fun h => by subst h; exact ed_not (by decide) (ed_ok _)) fun _ => ?_
    · refine Rl.bind (rl_names hm) (fun a m r m' e1 e2 => ?_) (fun a m e1 h => ?_) fun b => ed_must (by decide) _
      · obtain ⟨_, c, h3, h4⟩ := PR.bind_eq_ok e2
        have := m1 h3 (by decide)
        have := key _ _ _ _ _ _ h4
        omega
      exact Rl.bind (rl_must (by decide) h) (fun a m r m' e1 e2 => key _ _ _ _ _ _ e2) (fun a m e1 h => ih _ _ m h) fun b => by rw [head0]; exact ed_ok _
    · obtain ⟨x, a', h3, h4⟩ := PR.bind_eq_ok e2
      obtain ⟨_, a2, h5, h6⟩ := PR.bind_eq_ok h4
      have := namesP_far h3
      have := m1 h5 (by decide)
      have := key _ _ _ _ _ _ h6
      omega
    refine Rl.at (by decide) hn (fun hm _ => ?_) (fun em a m' e2 => ?_) (fun h => by subst h; exact ed_ok _) fun _ => .ok _ hn
    · refine Rl.bind (rl_take hm) (fun a m r m' e1 e2 => ?_) (fun t m e1 h => ?_) fun b => ed_must (by decide) _
      · obtain ⟨_, a2, h2, h⟩ := PR.bind_eq_ok e2
        obtain ⟨u, a3, h3, h⟩ := PR.bind_eq_ok h
        obtain ⟨_, a4, h4, h⟩ := PR.bind_eq_ok h
        obtain ⟨_, a5, h5, h⟩ := PR.bind_eq_ok h
        have := m1 h2 (by decide)
        have := take_ok h3
        have := m1 h4 (by decide)
        have := m1 h5 (by decide)
        have := key _ _ _ _ _ _ h
        omega
      refine Rl.bind (rl_must (by decide) h) (fun a m r m' e1 e2 => ?_) (fun _ m e1 h => ?_) fun b => ed_take _ _
      · obtain ⟨u, a3, h3, h⟩ := PR.bind_eq_ok e2
        obtain ⟨_, a4, h4, h⟩ := PR.bind_eq_ok h
        obtain ⟨_, a5, h5, h⟩ := PR.bind_eq_ok h
        have := take_ok h3
        have := m1 h4 (by decide)
        have := m1 h5 (by decide)
        have := key _ _ _ _ _ _ h
        omega
      refine Rl.bind (rl_take h) (fun a m r m' e1 e2 => ?_) (fun u m e1 h => ?_) fun b => ed_must (by decide) _
      · obtain ⟨_, a4, h4, h⟩ := PR.bind_eq_ok e2
        obtain ⟨_, a5, h5, h⟩ := PR.bind_eq_ok h
        have := m1 h4 (by decide)
        have := m1 h5 (by decide)
        have := key _ _ _ _ _ _ h
        omega
      refine Rl.bind (rl_must (by decide) h) (fun a m r m' e1 e2 => ?_) (fun _ m e1 h => ?_) fun b => ed_must (by decide) _
      · obtain ⟨_, a5, h5, h⟩ := PR.bind_eq_ok e2
        have := m1 h5 (by decide)
        have := key _ _ _ _ _ _ h
        omega
      exact Rl.bind (rl_must (by decide) h) (fun a m r m' e1 e2 => key _ _ _ _ _ _ e2) (fun a m e1 h => ih _ _ m h) fun b => by rw [head0]; exact ed_ok _
    · obtain ⟨t, a1, h1, h⟩ := PR.bind_eq_ok e2
      obtain ⟨_, a2, h2, h⟩ := PR.bind_eq_ok h
      obtain ⟨u, a3, h3, h⟩ := PR.bind_eq_ok h
      obtain ⟨_, a4, h4, h⟩ := PR.bind_eq_ok h
      obtain ⟨_, a5, h5, h⟩ := PR.bind_eq_ok h
      have := take_ok h1
      have := m1 h2 (by decide)
      have := take_ok h3
      have := m1 h4 (by decide)
      have := m1 h5 (by decide)
      have := key _ _ _ _ _ _ h
      omega
theorem cut_funs (hc : c < T.length) (f : Nat) : ∀ acc n l m, n ≤ c → funsI T f acc n = .ok l m → funsP (T.take c) acc n = .bad c ∨ ∃ k : Nat, k < l.length ∧ acc.length ≤ k ∧ funsP (T.take c) acc n = .ok (l.take k) c := by
  have hlen : (T.take c).length = c := by rw [List.length_take]; omega
  have pre : ∀ (f : Nat) acc n l m, funsI T f acc n = .ok l m → acc.length ≤ l.length ∧ l.take acc.length = acc ∧ (n < T.length → acc.length < l.length) := by
    intro f
    induction f with
    | zero => intro _ _ _ _ h; simp [funsI] at h
    | succ f ih =>
      intro acc n l m h
      rw [funsI] at h
      split at h
      · obtain ⟨s, a, h1, h2⟩ := PR.bind_eq_ok h
        obtain ⟨g1, g2, _⟩ := ih _ _ _ _ h2
        rw [List.length_append, List.length_singleton] at g1 g2
        refine ⟨by omega, ?_, fun _ => by omega⟩
        have : (l.take (acc.length + 1)).take acc.length = (acc ++ [s]).take acc.length := by rw [g2]
        rwa [List.take_take, Nat.min_eq_left (by omega), List.take_left'] at this
        rfl
      · cases h
        exact ⟨Nat.le_refl _, List.take_length, fun h => by contradiction⟩
  induction f with
  | zero => intro _ _ _ _ _ h; simp [funsI] at h
  | succ f ih =>
    intro acc n l m hn h
    have hp := pre _ _ _ _ _ h
    rw [funsI, if_pos (by omega)] at h
    obtain ⟨g, a, h1, h2⟩ := PR.bind_eq_ok h
    rw [funsP_eq, hlen]
    by_cases hlt : n < c
    · rw [if_pos hlt]
      have hq := rs_fun (Nat.le_of_lt hc) hn g a h1
      rcases Nat.lt_or_ge c a with hca | hca
      · left; rw [hq.2 hca]; rfl
      · rw [hq.1 hca, PR.bind_ok]
        rcases ih _ _ _ _ hca h2 with e | ⟨k, k1, k2, k3⟩
        · exact .inl e
        · rw [List.length_append] at k2
          exact .inr ⟨k, k1, by omega, k3⟩
    · rw [if_neg hlt]
      obtain rfl : n = c := by omega
      exact .inr ⟨acc.length, hp.2.2 (by omega), Nat.le_refl _, by rw [hp.2.1]⟩
theorem cut_prog (hc : c < T.length) {p : Pg} {m : Nat} (h : progP T 0 = .ok p m) : progP (T.take c) 0 = .bad c ∨ ∃ k : Nat, k < p.funs.length ∧ 0 < k ∧ progP (T.take c) 0 = .ok ⟨p.vars, p.arrs, p.funs.take k⟩ c := by
  unfold progP at h ⊢
  obtain ⟨va, a1, h1, h⟩ := PR.bind_eq_ok h
  obtain ⟨g, a2, h2, h⟩ := PR.bind_eq_ok h
  obtain ⟨fs, a3, h3, h⟩ := PR.bind_eq_ok h
  cases h
  have q1 : Rl c (headP T [] [] 0) (headP (T.take c) [] [] 0) := rl_head _ _ _ 0 (Nat.zero_le _)
  rcases Nat.lt_or_ge c a1 with hc1 | hc1
  · left
    rcases q1.over _ _ h1 hc1 with e | ⟨b, e⟩ <;> rw [e]
    · rfl
    · rw [PR.bind_ok, fun0]; rfl
  rw [q1.same _ _ h1 hc1, PR.bind_ok]
  have q2 := rs_fun (Nat.le_of_lt hc) hc1 g a2 h2
  rcases Nat.lt_or_ge c a2 with hc2 | hc2
  · left; rw [q2.2 hc2]; rfl
  rw [q2.1 hc2, PR.bind_ok]
  rcases cut_funs hc _ _ _ _ _ hc2 h3 with e | ⟨k, k1, k2, k3⟩
  · left; rw [e]; rfl
  · right
    refine ⟨k, k1, by rw [List.length_singleton] at k2; omega, ?_⟩
    rw [k3]; rfl
end
theorem cut_lex {s : Str} {i : Nat} {x : Except (Nat × Int) (List Tok)} (h : Big s i x) : ∀ l, x = .ok l → ∀ (k : Nat) (t : Tok), l[k]? = some t → ∃ n : Nat, t.pos = ((i + n : Nat) : Int) ∧ n ≤ s.length ∧ lexH (s.take n) 0 i = .ok (l.take k) := by
  induction h with
  | done b i h => intro l e k t hk; cases e; simp at hk
  | bad => intro l e; cases e
  | tok b s' r t i x hbl ht hxx ih =>
    intro l e k u hu
    obtain ⟨l', e1, rfl⟩ := map_ok e
    cases k with
    | zero =>
      simp only [List.getElem?_cons_zero, Option.some.injEq] at hu
      subst hu
      refine ⟨b.length, rfl, by rw [List.length_append]; omega, ?_⟩
      rw [List.take_left']
      · exact hbl.lex_end i
      · rfl
    | succ k =>
      rw [List.getElem?_cons_succ] at hu
      obtain ⟨n, h1, h2, h3⟩ := ih l' e1 k u hu
      have hsp := ht.split
      have hlen := congrArg List.length hsp
      rw [List.length_append] at hlen
      refine ⟨b.length + t.text.length + n, by rw [h1]; omega, by rw [List.length_append]; omega, ?_⟩
      have htk : (b ++ s').take (b.length + t.text.length + n) = b ++ (t.text ++ r.take n) := by
        rw [hsp, List.take_append, List.take_append]
        rw [List.take_of_length_le (by omega), List.take_of_length_le (by omega)]
        rw [show b.length + t.text.length + n - b.length - t.text.length = n by omega]
      have hhead : ∀ c r2, r.take n = c :: r2 → ∃ r3, r = c :: r3 := fun c r2 e => by
        cases r with
        | nil => simp at e
        | cons d r =>
          cases n with
          | zero => simp at e
          | succ n => simp only [List.take_succ_cons, List.cons.injEq] at e; exact ⟨r, by rw [e.1]⟩
      rw [htk, hbl.lex, lexH_tok (ht.swap (lets_hd ht.lets hhead)), h3]
      rfl
end Go.Proofs.YtlpeikljipknoaaDoor
