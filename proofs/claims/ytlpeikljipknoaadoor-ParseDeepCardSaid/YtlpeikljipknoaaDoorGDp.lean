/- Chapter 15: what is nested deep, in plain Lean. -/
import Derived.Test.YtlpeikljipknoaaDoorGPst
set_option linter.unusedSimpArgs false
set_option linter.unusedVariables false
set_option maxRecDepth 10000
namespace Go.Al
def eqM : Nat → Sm → Sm → Bool
  | 0, _, _ => false
  | n + 1, .mk k s l t u, .mk k' s' l' t' u' => decide (k = k') && decide (s = s') && eqLs (eqE 9) l l' && eqLs (eqM n) t t' && eqLs (eqM n) u u'
theorem eqM_ok (n : Nat) : ∀ a b, eqM n a b = true → a = b := by
  induction n with
  | zero => intro a b h; cases h
  | succ n ih =>
    intro a b h
    obtain ⟨k, s, l, t, u⟩ := a
    obtain ⟨k', s', l', t', u'⟩ := b
    simp only [eqM, Bool.and_eq_true, decide_eq_true_eq] at h
    obtain ⟨⟨⟨⟨rfl, rfl⟩, h1⟩, h2⟩, h3⟩ := h
    rw [eqLs_ok (eqE_ok 9) _ _ h1, eqLs_ok ih _ _ h2, eqLs_ok ih _ _ h3]
def eqF (f g : Fu) : Bool := decide (f.name = g.name) && decide (f.params = g.params) && decide (f.locs = g.locs) && decide (f.word = g.word) && eqLs (eqM 50) f.body g.body
theorem eqF_ok (f g : Fu) (h : eqF f g = true) : f = g := by
  simp only [eqF, Bool.and_eq_true, decide_eq_true_eq] at h
  obtain ⟨⟨⟨⟨h1, h2⟩, h3⟩, h4⟩, h5⟩ := h
  have := eqLs_ok (eqM_ok 50) _ _ h5
  cases f; cases g; simp_all
def isP (x : Option Pg) (p : Pg) : Bool := match x with
  | some q => decide (q.vars = p.vars) && decide (q.arrs.length = 0) && decide (p.arrs.length = 0) && eqLs eqF q.funs p.funs
  | none => false
theorem isP_ok {x : Option Pg} {p : Pg} (h : isP x p = true) : x = some p := by
  cases x with
  | none => cases h
  | some q =>
    simp only [isP, Bool.and_eq_true, decide_eq_true_eq] at h
    obtain ⟨⟨⟨h1, h2⟩, h3⟩, h4⟩ := h
    have := eqLs_ok eqF_ok _ _ h4
    have e1 := List.eq_nil_of_length_eq_zero h2
    have e2 := List.eq_nil_of_length_eq_zero h3
    cases q; cases p; simp_all
def isE2 (x : Option Ex) (e : Ex) : Bool := match x with
  | some y => eqE 50 y e
  | none => false
theorem isE2_ok {x : Option Ex} {e : Ex} (h : isE2 x e = true) : x = some e := by
  cases x with
  | none => cases h
  | some y => rw [eqE_ok 50 y e h]
end Go.Al
namespace Go.Proofs.YtlpeikljipknoaaDoor
open Go.Al
def notN : Nat → Ex
  | 0 => nA
  | k + 1 => .mk 7 0 0 [] [notN k]
def bangS : Nat → Str
  | 0 => [97]
  | k + 1 => [33] ++ bangS k
def ifS : Nat → Str
  | 0 => []
  | k + 1 => ifS k ++ [105, 102, 32, 40, 97, 32, 60, 32, 49, 41, 32, 123, 32]
def endS (s : Str) : Nat → Str
  | 0 => s
  | k + 1 => endS s k ++ [32, 125]
def deepT (k : Nat) : Str := endS ([102, 117, 110, 99, 32, 109, 97, 105, 110, 40, 41, 32, 123, 32] ++ ifS k ++ [112, 117, 116, 40, 49, 41, 59]) k ++ [32, 125]
def ltX : Ex := .mk 6 14 0 [] [nA, .mk 1 0 1 [] []]
def deepB : Nat → List Sm
  | 0 => [.mk 3 [] [.mk 1 0 1 [] []] [] []]
  | k + 1 => [.mk 4 [] [ltX] (deepB k) []]
def deepP (k : Nat) : Pg := ⟨[], [], [⟨[109, 97, 105, 110], [], [], false, deepB k⟩]⟩
def deepQ (k : Nat) : Bool := isE2 (rdE (bangS k)) (notN k) && isP (rdP (deepT k)) (deepP k)
theorem deep0 : ((List.range 5).all fun k => deepQ (0 + k)) = true := by decide +kernel
theorem deep1 : ((List.range 5).all fun k => deepQ (5 + k)) = true := by decide +kernel
theorem deep2 : ((List.range 5).all fun k => deepQ (10 + k)) = true := by decide +kernel
theorem deep3 : ((List.range 5).all fun k => deepQ (15 + k)) = true := by decide +kernel
theorem deep4 : ((List.range 5).all fun k => deepQ (20 + k)) = true := by decide +kernel
theorem deep5 : ((List.range 5).all fun k => deepQ (25 + k)) = true := by decide +kernel
theorem deep6 : ((List.range 5).all fun k => deepQ (30 + k)) = true := by decide +kernel
theorem deep7 : ((List.range 5).all fun k => deepQ (35 + k)) = true := by decide +kernel
theorem deep_at {m k : Nat} (h : ((List.range 5).all fun k => deepQ (m + k)) = true) (h1 : m ≤ k) (h2 : k < m + 5) : deepQ k = true := by
  have := List.all_eq_true.1 h (k - m) (List.mem_range.2 (by omega))
  rwa [show m + (k - m) = k by omega] at this
theorem deep_rd {k : Nat} (h : k < 40) : rdE (bangS k) = some (notN k) ∧ rdP (deepT k) = some (deepP k) := by
  have : deepQ k = true := by
    rcases Nat.lt_or_ge k 5 with g | g
    · exact deep_at deep0 (by omega) g
    rcases Nat.lt_or_ge k 10 with g | g
    · exact deep_at deep1 (by omega) g
    rcases Nat.lt_or_ge k 15 with g | g
    · exact deep_at deep2 (by omega) g
    rcases Nat.lt_or_ge k 20 with g | g
    · exact deep_at deep3 (by omega) g
    rcases Nat.lt_or_ge k 25 with g | g
    · exact deep_at deep4 (by omega) g
    rcases Nat.lt_or_ge k 30 with g | g
    · exact deep_at deep5 (by omega) g
    rcases Nat.lt_or_ge k 35 with g | g
    · exact deep_at deep6 (by omega) g
    exact deep_at deep7 (by omega) (by omega)
  rw [deepQ, Bool.and_eq_true] at this
  exact ⟨isE2_ok this.1, isP_ok this.2⟩
theorem not_right : ∀ (k : Nat) (lv : Int), rightX (notN k) lv = decide (lv + k ≤ 24)
  | 0, lv => by
    have h : rightX (notN 0) lv = (decide (lv ≤ 24) && (decide ((2 : Int) = 6) || decide ((0 : Int) = 0)) && (decide ((2 : Int) = 1) || decide ((0 : Int) = 0)) && nameB [97] && kidsX 2 0 0 && rightE [] (lv + 1)) := rfl
    rw [h, rightE_nil, show nameB [97] = true by decide +kernel, show kidsX 2 0 0 = true by decide, Bool.eq_iff_iff]
    simp
  | k + 1, lv => by
    have h : rightX (notN (k + 1)) lv = (decide (lv ≤ 24) && (decide ((7 : Int) = 6) || decide ((0 : Int) = 0)) && (decide ((7 : Int) = 1) || decide ((0 : Int) = 0)) && decide (([] : Str) = []) && kidsX 7 0 1 && rightE [notN k] (lv + 1)) := rfl
    rw [h, rightE_cons, rightE_nil, not_right k, show kidsX 7 0 1 = true by decide, Bool.eq_iff_iff]
    simp
    omega
theorem lt_right (lv : Int) : rightX ltX lv = decide (lv + 1 ≤ 24) := by
  have h : rightX ltX lv = (decide (lv ≤ 24) && (decide ((6 : Int) = 6) || decide ((14 : Int) = 0)) && (decide ((6 : Int) = 1) || decide ((0 : Int) = 0)) && decide (([] : Str) = []) && kidsX 6 14 2 && rightE [nA, .mk 1 0 1 [] []] (lv + 1)) := rfl
  have h1 : rightX (.mk 1 0 1 [] []) (lv + 1) = (decide (lv + 1 ≤ 24) && (decide ((1 : Int) = 6) || decide ((0 : Int) = 0)) && (decide ((1 : Int) = 1) || decide ((1 : Int) = 0)) && decide (([] : Str) = []) && kidsX 1 0 0 && rightE [] (lv + 1 + 1)) := rfl
  have h2 := not_right 0 (lv + 1)
  rw [show notN 0 = nA from rfl] at h2
  rw [h, rightE_cons, rightE_cons, rightE_nil, h1, rightE_nil, h2, show kidsX 6 14 2 = true by decide, show kidsX 1 0 0 = true by decide, Bool.eq_iff_iff]
  simp
  omega
theorem deep_right : ∀ (k : Nat) (lv : Int), rightS (deepB k) lv = decide (lv + k + 1 ≤ 24)
  | 0, lv => by
    have h1 : rightX (.mk 1 0 1 [] []) (lv + 1) = (decide (lv + 1 ≤ 24) && (decide ((1 : Int) = 6) || decide ((0 : Int) = 0)) && (decide ((1 : Int) = 1) || decide ((1 : Int) = 0)) && decide (([] : Str) = []) && kidsX 1 0 0 && rightE [] (lv + 1 + 1)) := rfl
    have h : rightM (.mk 3 [] [.mk 1 0 1 [] []] [] []) lv = (decide (lv ≤ 24) && (decide ((3 : Int) = 4) || decide ((0 : Nat) = 0)) && (decide ((3 : Int) = 4) || decide ((3 : Int) = 5) || decide ((0 : Nat) = 0)) && decide (([] : Str) = []) && fitS 3 1 && rightE [.mk 1 0 1 [] []] (lv + 1) && rightS [] (lv + 1) && rightS [] (lv + 1)) := rfl
    rw [deepB, rightS_cons, rightS_nil, h, rightS_nil, rightE_cons, rightE_nil, h1, rightE_nil, show kidsX 1 0 0 = true by decide, show fitS 3 1 = true by decide, Bool.eq_iff_iff]
    simp
    omega
  | k + 1, lv => by
    have h : rightM (.mk 4 [] [ltX] (deepB k) []) lv = (decide (lv ≤ 24) && (decide ((4 : Int) = 4) || decide ((0 : Nat) = 0)) && (decide ((4 : Int) = 4) || decide ((4 : Int) = 5) || decide ((deepB k).length = 0)) && decide (([] : Str) = []) && fitS 4 1 && rightE [ltX] (lv + 1) && rightS (deepB k) (lv + 1) && rightS [] (lv + 1)) := rfl
    rw [deepB, rightS_cons, rightS_nil, h, rightS_nil, rightE_cons, rightE_nil, lt_right, deep_right k, show fitS 4 1 = true by decide, Bool.eq_iff_iff]
    simp
    omega
theorem alone_right (e : Ex) : rightP (aloneP e) = rightX e 2 := by
  have h : rightM (.mk 3 [] [e] [] []) 1 = (decide ((1 : Int) ≤ 24) && (decide ((3 : Int) = 4) || decide ((0 : Nat) = 0)) && (decide ((3 : Int) = 4) || decide ((3 : Int) = 5) || decide ((0 : Nat) = 0)) && decide (([] : Str) = []) && fitS 3 1 && rightE [e] (1 + 1) && rightS [] (1 + 1) && rightS [] (1 + 1)) := rfl
  simp only [aloneP, rightP, rightF, List.all_cons, List.all_nil, rightS_cons, rightS_nil, h, rightE_cons, rightE_nil, show fitS 3 1 = true by decide, show nameB [109, 97, 105, 110] = true by decide +kernel, show (1 : Int) + 1 = 2 from rfl]
  simp
theorem deepP_right (k : Nat) : rightP (deepP k) = decide (k + 2 ≤ 24) := by
  simp only [deepP, rightP, rightF, List.all_cons, List.all_nil, deep_right, show nameB [109, 97, 105, 110] = true by decide +kernel]
  rw [Bool.eq_iff_iff]
  simp
  omega
theorem srcE_far {s : Str} {e : Ex} (h : rdE s = some e) (hr : rightP (aloneP e) = false) : srcE s = (exZ, 0, 2) := by
  unfold rdE at h
  unfold srcE
  cases hl : lexS s with
  | error x => rw [hl] at h; cases h
  | ok T =>
    rw [hl] at h
    simp only at h ⊢
    cases hp : exprP T 1 0 with
    | bad m => rw [hp] at h; cases h
    | ok x m =>
      rw [hp] at h
      simp only at h ⊢
      by_cases c : m < T.length
      · rw [if_pos c] at h; cases h
      · rw [if_neg c] at h ⊢
        cases h
        rw [if_neg (by rw [hr]; decide)]
theorem srcP_far {s : Str} {e : Pg} (h : rdP s = some e) (hr : rightP e = false) : srcP s = (pgZ, 0, 2) := by
  unfold rdP at h
  unfold srcP
  cases hl : lexS s with
  | error x => rw [hl] at h; cases h
  | ok T =>
    rw [hl] at h
    simp only at h ⊢
    cases hp : progP T 0 with
    | bad m => rw [hp] at h; cases h
    | ok x m =>
      rw [hp] at h
      simp only at h ⊢
      by_cases c : m < T.length
      · rw [if_pos c] at h; cases h
      · rw [if_neg c] at h ⊢
        cases h
        rw [if_neg (by rw [hr]; decide)]
theorem deep_src {k : Nat} (h : k < 40) : (∃ e, srcE (bangS k) = (e, 0, if k + 2 ≤ 24 then 0 else 2)) ∧ ∃ p, srcP (deepT k) = (p, 0, if k + 2 ≤ 24 then 0 else 2) := by
  obtain ⟨h1, h2⟩ := deep_rd h
  have r1 := alone_right (notN k)
  rw [not_right] at r1
  have r2 := deepP_right k
  by_cases hk : k + 2 ≤ 24
  · rw [decide_eq_true (by omega)] at r1
    rw [decide_eq_true hk] at r2
    rw [if_pos hk]
    exact ⟨⟨_, srcE_rd h1 r1⟩, ⟨_, srcP_rd h2 r2⟩⟩
  · rw [decide_eq_false (by omega)] at r1
    rw [decide_eq_false hk] at r2
    rw [if_neg hk]
    exact ⟨⟨_, srcE_far h1 r1⟩, ⟨_, srcP_far h2 r2⟩⟩
theorem bang_len : ∀ k, (bangS k).length = k + 1
  | 0 => rfl
  | k + 1 => by simp only [bangS, List.length_append, bang_len k, List.length_cons, List.length_nil]; omega
theorem ifS_len : ∀ k, (ifS k).length = 13 * k
  | 0 => rfl
  | k + 1 => by simp only [ifS, List.length_append, ifS_len k, List.length_cons, List.length_nil]; omega
theorem endS_len (s : Str) : ∀ k, (endS s k).length = s.length + 2 * k
  | 0 => rfl
  | k + 1 => by simp only [endS, List.length_append, endS_len s k, List.length_cons, List.length_nil]; omega
theorem deepT_len (k : Nat) : (deepT k).length = 23 + 15 * k := by
  simp only [deepT, List.length_append, endS_len, ifS_len, List.length_cons, List.length_nil]; omega
end Go.Proofs.YtlpeikljipknoaaDoor
