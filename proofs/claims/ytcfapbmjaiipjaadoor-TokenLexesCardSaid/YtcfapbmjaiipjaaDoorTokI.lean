/- Chapter 13: the lexer, in plain Lean. -/
import Derived.Test.YtcfapbmjaiipjaaDoorTokH
import Derived.Test.YtcfapbmjaiipjaaDoorAlS
set_option linter.unusedSimpArgs false
set_option linter.unusedVariables false
namespace Go.Proofs.YtcfapbmjaiipjaaDoor
open Go.Al
def wsI (c : Int) : Bool := decide (c = 32) || decide (c = 9) || decide (c = 10)
def notNL (c : UInt8) : Bool := !decide ((c.toNat : Int) = 10)
/-- The tokens of s, whose first byte has number i, of which k bytes are passed over; or where and how it fails. -/
def lexH : List UInt8 → Nat → Nat → Except (Nat × Int) (List Tok)
  | [], _, _ => .ok []
  | _ :: r, k + 1, i => lexH r k (i + 1)
  | c :: r, 0, i =>
    if wsI c.toNat then lexH r 0 (i + 1)
    else if hasP (c :: r) [47, 47] then lexH r (((c :: r).takeWhile notNL).length - 1) (i + 1)
    else if (firstS (c :: r)).2 = 0 then (lexH r ((firstS (c :: r)).1.text.length - 1) (i + 1)).map ({ (firstS (c :: r)).1 with pos := i } :: ·)
    else .error (i, (firstS (c :: r)).2)
theorem lexH_skip : ∀ (s : List UInt8) (k i : Nat), lexH s k i = lexH (s.drop k) 0 (i + k)
  | [], k, i => by cases k <;> simp [lexH]
  | c :: r, 0, i => by simp
  | c :: r, k + 1, i => by
    simp only [lexH, List.drop_succ_cons]
    rw [lexH_skip r k (i + 1)]
    congr 1; omega
def lexV : Except (Nat × Int) (List Tok) → AV
  | .ok l => .tup [slV 4 (l.map Tok.row), .int .i64 0, .int .i64 0]
  | .error (i, e) => .tup [.nsl, .int .i64 i, .int .i64 e]
def lexS (s : List UInt8) : Except (Nat × Int) (List Tok) := if 20000 < s.length then .error (0, 2) else lexH s 0 0
def pre (l : List Tok) (x : Except (Nat × Int) (List Tok)) : Except (Nat × Int) (List Tok) := x.map (l ++ ·)
theorem pre_nil (x : Except (Nat × Int) (List Tok)) : pre [] x = x := by cases x <;> rfl
theorem pre_cons (l : List Tok) (t : Tok) (x : Except (Nat × Int) (List Tok)) : pre l (x.map (t :: ·)) = pre (l ++ [t]) x := by cases x <;> simp [pre, Except.map]
/-- a token's text is not empty -/
theorem first_text {s : List UInt8} (hs : s ≠ []) (h : (firstS s).2 = 0) : 0 < (firstS s).1.text.length := by
  cases s with
  | nil => exact absurd rfl hs
  | cons c r =>
    simp only [firstS] at *
    split at h
    · rename_i hd
      rw [if_pos hd]
      simp only [numTok] at *
      split at h
      · rename_i n e; have : isD c = true := hd; simp [List.takeWhile, this]
      · exact absurd h (by decide)
    · rename_i hd
      rw [if_neg hd]
      split at h
      · rename_i hq
        rw [if_pos hq]
        rw [byteS_cons] at *
        split at h
        · rename_i e1 e2; split at h
          · rename_i e3; simp only [e1, e2, e3, if_true]; simp
          · exact absurd h (by decide)
        · exact absurd h (by decide)
      · rename_i hq
        rw [if_neg hq]
        split at h
        · rename_i ha
          rw [if_pos ha]
          have hlen : 0 < ((c :: r).takeWhile isN).length := by
            have : isN c = true := by simp [isN, inI, ha]
            simp only [List.takeWhile, this]; simp
          simp only [nameS] at *
          split at h
          · exact absurd h (by decide)
          · rename_i h20
            rw [if_neg h20]
            split <;> exact hlen
        · rename_i ha
          rw [if_neg ha]
          split at h
          · rename_i w e
            have := List.mem_of_find?_eq_some e
            have h2 : ∀ w ∈ signsL, 0 < w.length := by decide
            exact h2 w this
          · exact absurd h (by decide)
theorem first_len (s : List UInt8) : (firstS s).1.text.length ≤ s.length := by
  cases s with
  | nil => simp [firstS, tok0]
  | cons c r =>
    simp only [firstS]
    split
    · simp only [numTok]
      split
      · exact takeWhile_len _ _
      · simp [tok0]
    · split
      · rw [byteS_cons]
        split
        · split
          · rename_i e1 e2 _
            have := (List.getElem?_eq_some_iff.1 e2).1
            simp only [List.length_take]
            omega
          · simp [tok0]
        · simp [tok0]
      · split
        · simp only [nameS]
          split
          · simp [tok0]
          · split <;> exact takeWhile_len _ _
        · split
          · rename_i w e
            have h := List.find?_some e
            have h2 : (c :: r).take w.length = w := of_decide_eq_true h
            have := congrArg List.length h2
            rw [List.length_take] at this
            simp only
            omega
          · simp [tok0]
end Go.Proofs.YtcfapbmjaiipjaaDoor
