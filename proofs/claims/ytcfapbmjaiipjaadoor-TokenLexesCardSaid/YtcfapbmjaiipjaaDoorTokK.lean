/- Chapter 13: the judge's lexer. -/
import Derived.Test.YtcfapbmjaiipjaaDoorTokJ
set_option linter.unusedSimpArgs false
set_option linter.unusedVariables false
namespace Go.Proofs.YtcfapbmjaiipjaaDoor
open Go.Al
/-- how many bytes of blanks and comments s begins with; the first k are passed over anyhow -/
def passH : List UInt8 → Nat → Nat
  | [], _ => 0
  | _ :: r, k + 1 => passH r k + 1
  | c :: r, 0 => if wsI c.toNat then passH r 0 + 1 else if hasP (c :: r) [47, 47] then passH r (((c :: r).takeWhile notNL).length - 1) + 1 else 0
theorem passH_skip : ∀ (s : List UInt8) (k : Nat), k ≤ s.length → passH s k = passH (s.drop k) 0 + k
  | [], k, h => by simp at h; subst h; rfl
  | c :: r, 0, _ => by simp
  | c :: r, k + 1, h => by
    simp only [passH, List.drop_succ_cons]
    rw [passH_skip r k (by simpa using h)]
    omega
theorem comment_len {c : UInt8} {r : List UInt8} (h : hasP (c :: r) [47, 47] = true) : 1 ≤ ((c :: r).takeWhile notNL).length := by
  have : (c :: r).take 2 = [47, 47] := of_decide_eq_true h
  simp only [List.take_succ_cons, List.cons.injEq] at this
  have hc47 : notNL c = true := by rw [this.1]; rfl
  simp only [List.takeWhile, hc47]; simp
theorem passH_spec (n : Nat) : ∀ (s : List UInt8) (i : Nat), s.length ≤ n → passH s 0 ≤ s.length ∧ lexH s 0 i = lexH (s.drop (passH s 0)) 0 (i + passH s 0) ∧ (∀ c r, s.drop (passH s 0) = c :: r → wsI c.toNat = false ∧ hasP (c :: r) [47, 47] = false) := by
  induction n with
  | zero =>
    intro s i h
    cases s with
    | nil => exact ⟨by simp [passH], by simp [passH], fun c r e => by simp at e⟩
    | cons => simp at h
  | succ n ih =>
    intro s i h
    cases s with
    | nil => exact ⟨by simp [passH], by simp [passH], fun c r e => by simp at e⟩
    | cons c r =>
      simp only [List.length_cons] at h
      cases hw : wsI c.toNat with
      | true =>
        obtain ⟨h1, h2, h3⟩ := ih r (i + 1) (by omega)
        simp only [passH, hw, if_true, lexH, List.length_cons, List.drop_succ_cons]
        refine ⟨by omega, ?_, h3⟩
        rw [h2]; congr 1; omega
      | false =>
        cases hp : hasP (c :: r) [47, 47] with
        | true =>
          have hn := comment_len hp
          have hn2 := takeWhile_len notNL (c :: r)
          simp only [List.length_cons] at hn2
          simp only [passH, hw, hp, if_true, if_false, Bool.false_eq_true, lexH, List.length_cons]
          rw [lexH_skip, passH_skip _ _ (by omega)]
          obtain ⟨h1, h2, h3⟩ := ih (r.drop (((c :: r).takeWhile notNL).length - 1)) (i + 1 + (((c :: r).takeWhile notNL).length - 1)) (by rw [List.length_drop]; omega)
          rw [List.length_drop] at h1
          rw [List.drop_drop] at h2 h3
          refine ⟨by omega, ?_, ?_⟩
          · rw [h2, List.drop_succ_cons]
            congr 1
            · congr 1; omega
            · omega
          · intro c' r' e
            rw [List.drop_succ_cons] at e
            refine h3 c' r' ?_
            rw [← e]; congr 1; omega
        | false =>
          simp only [passH, hw, hp, if_false, Bool.false_eq_true]
          refine ⟨by omega, by simp, fun c' r' e => ?_⟩
          simp only [List.drop_zero, List.cons.injEq] at e
          rw [← e.1, ← e.2]
          exact ⟨hw, hp⟩
end Go.Proofs.YtcfapbmjaiipjaaDoor
