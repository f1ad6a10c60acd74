/- The lexer, in plain Lean (after chapter 15's texts). -/
import Derived.Test.YtgcncdjnipfolaaDoorSy3
set_option linter.unusedSimpArgs false
set_option linter.unusedVariables false
set_option maxRecDepth 10000
namespace Go.Proofs.YtgcncdjnipfolaaDoor
open Go.Al
def signsL : List (List UInt8) := [[60, 60], [62, 62], [61, 61], [38, 38], [124, 124], [40], [41], [123], [125], [91], [93], [59], [44], [61], [43], [45], [42], [47], [37], [38], [124], [94], [60], [33]]
def hasP (s p : List UInt8) : Bool := decide (s.take p.length = p)
end Go.Proofs.YtgcncdjnipfolaaDoor

namespace Go.Proofs.YtgcncdjnipfolaaDoor
open Go.Al
structure Tok where
  kind : Int
  text : List UInt8
  num : Int
  pos : Int
def tok0 : Tok := ⟨0, [], 0, 0⟩
def nameS (s : List UInt8) : Tok × Int := if 20 < s.length then (tok0, 2) else if wordsL.contains s then (⟨3, s, 0, 0⟩, 0) else (⟨1, s, 0, 0⟩, 0)
def byteOk (c d : UInt8) : Bool := decide ((d.toNat : Int) = 39) && !decide ((c.toNat : Int) < 32) && !decide (126 < (c.toNat : Int)) && !decide ((c.toNat : Int) = 39) && !decide ((c.toNat : Int) = 92)
def byteS (s : List UInt8) : Tok × Int :=
  match s with
  | _ :: c :: d :: _ => if byteOk c d then (⟨2, s.take 3, c.toNat, 0⟩, 0) else (tok0, 3)
  | _ => (tok0, 3)
def numS : Int → List UInt8 → Option Int
  | n, [] => some n
  | n, c :: cs => if 4294967295 < n * 10 + ((c.toNat : Int) - 48) then none else numS (n * 10 + ((c.toNat : Int) - 48)) cs
def numTok (s : List UInt8) : Tok × Int := match numS 0 s with | some n => (⟨2, s, n, 0⟩, 0) | none => (tok0, 2)
theorem digit_bounds {c : UInt8} (h : digI c.toNat = true) : 48 ≤ (c.toNat : Int) ∧ (c.toNat : Int) ≤ 57 := by
  simpa [digI] using h
theorem numS_bound : ∀ (s : List UInt8) (n m : Int), 0 ≤ n → n ≤ 4294967295 → s.all (fun c => digI c.toNat) = true → numS n s = some m → 0 ≤ m ∧ m ≤ 4294967295
  | [], n, m, h0, h1, _, h => by simp only [numS, Option.some.injEq] at h; omega
  | c :: cs, n, m, h0, h1, hd, h => by
    simp only [List.all_cons, Bool.and_eq_true] at hd
    have hb := digit_bounds hd.1
    simp only [numS] at h
    split at h
    · cases h
    · exact numS_bound cs _ m (by omega) (by omega) hd.2 h
end Go.Proofs.YtgcncdjnipfolaaDoor

namespace Go.Proofs.YtgcncdjnipfolaaDoor
open Go.Al
def numR : Int → Bool → List UInt8 → Int × Bool
  | n, g, [] => (n, g)
  | n, g, c :: cs => if 4294967295 < n * 10 + ((c.toNat : Int) - 48) then numR 0 true cs else numR (n * 10 + ((c.toNat : Int) - 48)) g cs
theorem numR_great : ∀ (s : List UInt8) (n : Int), (numR n true s).2 = true
  | [], _ => rfl
  | c :: cs, n => by simp only [numR]; split <;> exact numR_great cs _
theorem numR_spec : ∀ (s : List UInt8) (n : Int), match numS n s with | some m => numR n false s = (m, false) | none => (numR n false s).2 = true
  | [], n => rfl
  | c :: cs, n => by
    simp only [numS, numR]
    split
    · rename_i m h
      split at h
      · cases h
      · rename_i h2
        have := numR_spec cs (n * 10 + ((c.toNat : Int) - 48))
        rw [h] at this
        rw [if_neg h2]; exact this
    · rename_i h
      split at h
      · rename_i h2; rw [if_pos h2]; exact numR_great _ _
      · rename_i h2
        have := numR_spec cs (n * 10 + ((c.toNat : Int) - 48))
        rw [h] at this
        rw [if_neg h2]; exact this
def isD (c : UInt8) : Bool := digI c.toNat
def firstS (s : List UInt8) : Tok × Int :=
  match s with
  | [] => (tok0, 3)
  | c :: r => if digI c.toNat then numTok ((c :: r).takeWhile isD) else if decide ((c.toNat : Int) = 39) then byteS (c :: r) else if alphI c.toNat then nameS ((c :: r).takeWhile isN) else
    match signsL.find? (hasP (c :: r)) with
    | some w => (⟨4, w, 0, 0⟩, 0)
    | none => (tok0, 3)
theorem all_takeWhile (p : UInt8 → Bool) : ∀ s : List UInt8, (s.takeWhile p).all p = true
  | [] => rfl
  | c :: s => by
    simp only [List.takeWhile]
    cases h : p c
    · rfl
    · simp [h, all_takeWhile p s]
theorem takeWhile_len (p : UInt8 → Bool) : ∀ s : List UInt8, (s.takeWhile p).length ≤ s.length
  | [] => by simp
  | c :: s => by
    simp only [List.takeWhile]
    have := takeWhile_len p s
    cases h : p c <;> simp <;> omega
theorem find_at {α : Type} (p : α → Bool) (l : List α) (i : Nat) (hl : i < l.length) (hn : (l.take i).find? p = none) (h : p l[i] = true) : l.find? p = some l[i] := by
  rw [show l.find? p = (l.take i ++ l.drop i).find? p by rw [List.take_append_drop], List.find?_append, hn, List.drop_eq_getElem_cons hl]
  simp [List.find?, h]
end Go.Proofs.YtgcncdjnipfolaaDoor

namespace Go.Proofs.YtgcncdjnipfolaaDoor
open Go.Al
def nextS (s : List UInt8) (i : Nat) : Tok × Int := if (firstS (s.drop i)).2 = 0 then ({ (firstS (s.drop i)).1 with pos := i }, 0) else (tok0, (firstS (s.drop i)).2)
theorem byteS_cons (x : UInt8) (r : List UInt8) : byteS (x :: r) = match r[0]?, r[1]? with | some c, some d => if byteOk c d then (⟨2, (x :: r).take 3, c.toNat, 0⟩, 0) else (tok0, 3) | _, _ => (tok0, 3) := by
  match r with
  | [] => rfl
  | [_] => rfl
  | c :: d :: r => rfl
theorem take_takeWhile (p : UInt8 → Bool) : ∀ s : List UInt8, s.take (s.takeWhile p).length = s.takeWhile p
  | [] => rfl
  | c :: s => by
    simp only [List.takeWhile]
    cases h : p c <;> simp [take_takeWhile p s]
theorem byteOk_le (c d : UInt8) : byteOk c d = (decide ((d.toNat : Int) = 39) && decide (32 ≤ (c.toNat : Int)) && decide ((c.toNat : Int) ≤ 126) && !decide ((c.toNat : Int) = 39) && !decide ((c.toNat : Int) = 92)) := by
  have h1 : (!decide ((c.toNat : Int) < 32)) = decide (32 ≤ (c.toNat : Int)) := by rw [Bool.eq_iff_iff]; simp
  have h2 : (!decide (126 < (c.toNat : Int))) = decide ((c.toNat : Int) ≤ 126) := by rw [Bool.eq_iff_iff]; simp
  rw [byteOk, h1, h2]
end Go.Proofs.YtgcncdjnipfolaaDoor

namespace Go.Proofs.YtgcncdjnipfolaaDoor
open Go.Al
def wsI (c : Int) : Bool := decide (c = 32) || decide (c = 9) || decide (c = 10)
def notNL (c : UInt8) : Bool := !decide ((c.toNat : Int) = 10)
def lexH : List UInt8 → Nat → Nat → Except (Nat × Int) (List Tok)
  | [], _, _ => .ok []
  | _ :: r, k + 1, i => lexH r k (i + 1)
  | c :: r, 0, i =>
    if wsI c.toNat then lexH r 0 (i + 1)
    else if hasP (c :: r) [47, 47] then lexH r (((c :: r).takeWhile notNL).length - 1) (i + 1)
    else if (firstS (c :: r)).2 = 0 then (lexH r ((firstS (c :: r)).1.text.length - 1) (i + 1)).map ({ (firstS (c :: r)).1 with pos := i } :: ·)
    else .error (i, (firstS (c :: r)).2)
theorem lexH_skip : ∀ (s : List UInt8) (k i : Nat), lexH s k i = lexH (s.drop k) 0 (i + k)
  | [], k, i => by cases k <;> simp [lexH]
  | c :: r, 0, i => by simp
  | c :: r, k + 1, i => by
    simp only [lexH, List.drop_succ_cons]
    rw [lexH_skip r k (i + 1)]
    congr 1; omega
def lexS (s : List UInt8) : Except (Nat × Int) (List Tok) := if 20000 < s.length then .error (0, 2) else lexH s 0 0
def pre (l : List Tok) (x : Except (Nat × Int) (List Tok)) : Except (Nat × Int) (List Tok) := x.map (l ++ ·)
theorem pre_nil (x : Except (Nat × Int) (List Tok)) : pre [] x = x := by cases x <;> rfl
theorem pre_cons (l : List Tok) (t : Tok) (x : Except (Nat × Int) (List Tok)) : pre l (x.map (t :: ·)) = pre (l ++ [t]) x := by cases x <;> simp [pre, Except.map]
theorem first_text {s : List UInt8} (hs : s ≠ []) (h : (firstS s).2 = 0) : 0 < (firstS s).1.text.length := by
  cases s with
  | nil => exact absurd rfl hs
  | cons c r =>
    simp only [firstS] at *
    split at h
    · rename_i hd
      rw [if_pos hd]
      simp only [numTok] at *
      split at h
      · rename_i n e; have : isD c = true := hd; simp [List.takeWhile, this]
      · exact absurd h (by decide)
    · rename_i hd
      rw [if_neg hd]
      split at h
      · rename_i hq
        rw [if_pos hq]
        rw [byteS_cons] at *
        split at h
        · rename_i e1 e2; split at h
          · rename_i e3; simp only [e1, e2, e3, if_true]; simp
          · exact absurd h (by decide)
        · exact absurd h (by decide)
      · rename_i hq
        rw [if_neg hq]
        split at h
        · rename_i ha
          rw [if_pos ha]
          have hlen : 0 < ((c :: r).takeWhile isN).length := by
            have : isN c = true := by simp [isN, inI, ha]
            simp only [List.takeWhile, this]; simp
          simp only [nameS] at *
          split at h
          · exact absurd h (by decide)
          · rename_i h20
            rw [if_neg h20]
            split <;> exact hlen
        · rename_i ha
          rw [if_neg ha]
          split at h
          · rename_i w e
            have := List.mem_of_find?_eq_some e
            have h2 : ∀ w ∈ signsL, 0 < w.length := by decide
            exact h2 w this
          · exact absurd h (by decide)
theorem first_len (s : List UInt8) : (firstS s).1.text.length ≤ s.length := by
  cases s with
  | nil => simp [firstS, tok0]
  | cons c r =>
    simp only [firstS]
    split
    · simp only [numTok]
      split
      · exact takeWhile_len _ _
      · simp [tok0]
    · split
      · rw [byteS_cons]
        split
        · split
          · rename_i e1 e2 _
            have := (List.getElem?_eq_some_iff.1 e2).1
            simp only [List.length_take]
            omega
          · simp [tok0]
        · simp [tok0]
      · split
        · simp only [nameS]
          split
          · simp [tok0]
          · split <;> exact takeWhile_len _ _
        · split
          · rename_i w e
            have h := List.find?_some e
            have h2 : (c :: r).take w.length = w := of_decide_eq_true h
            have := congrArg List.length h2
            rw [List.length_take] at this
            simp only
            omega
          · simp [tok0]
end Go.Proofs.YtgcncdjnipfolaaDoor

namespace Go.Proofs.YtgcncdjnipfolaaDoor
open Go.Al
end Go.Proofs.YtgcncdjnipfolaaDoor

namespace Go.Proofs.YtgcncdjnipfolaaDoor
open Go.Al
def passH : List UInt8 → Nat → Nat
  | [], _ => 0
  | _ :: r, k + 1 => passH r k + 1
  | c :: r, 0 => if wsI c.toNat then passH r 0 + 1 else if hasP (c :: r) [47, 47] then passH r (((c :: r).takeWhile notNL).length - 1) + 1 else 0
theorem passH_skip : ∀ (s : List UInt8) (k : Nat), k ≤ s.length → passH s k = passH (s.drop k) 0 + k
  | [], k, h => by simp at h; subst h; rfl
  | c :: r, 0, _ => by simp
  | c :: r, k + 1, h => by
    simp only [passH, List.drop_succ_cons]
    rw [passH_skip r k (by simpa using h)]
    omega
theorem comment_len {c : UInt8} {r : List UInt8} (h : hasP (c :: r) [47, 47] = true) : 1 ≤ ((c :: r).takeWhile notNL).length := by
  have : (c :: r).take 2 = [47, 47] := of_decide_eq_true h
  simp only [List.take_succ_cons, List.cons.injEq] at this
  have hc47 : notNL c = true := by rw [this.1]; rfl
  simp only [List.takeWhile, hc47]; simp
theorem passH_spec (n : Nat) : ∀ (s : List UInt8) (i : Nat), s.length ≤ n → passH s 0 ≤ s.length ∧ lexH s 0 i = lexH (s.drop (passH s 0)) 0 (i + passH s 0) ∧ (∀ c r, s.drop (passH s 0) = c :: r → wsI c.toNat = false ∧ hasP (c :: r) [47, 47] = false) := by
  induction n with
  | zero =>
    intro s i h
    cases s with
    | nil => exact ⟨by simp [passH], by simp [passH], fun c r e => by simp at e⟩
    | cons => simp at h
  | succ n ih =>
    intro s i h
    cases s with
    | nil => exact ⟨by simp [passH], by simp [passH], fun c r e => by simp at e⟩
    | cons c r =>
      simp only [List.length_cons] at h
      cases hw : wsI c.toNat with
      | true =>
        obtain ⟨h1, h2, h3⟩ := ih r (i + 1) (by omega)
        simp only [passH, hw, if_true, lexH, List.length_cons, List.drop_succ_cons]
        refine ⟨by omega, ?_, h3⟩
        rw [h2]; congr 1; omega
      | false =>
        cases hp : hasP (c :: r) [47, 47] with
        | true =>
          have hn := comment_len hp
          have hn2 := takeWhile_len notNL (c :: r)
          simp only [List.length_cons] at hn2
          simp only [passH, hw, hp, if_true, if_false, Bool.false_eq_true, lexH, List.length_cons]
          rw [lexH_skip, passH_skip _ _ (by omega)]
          obtain ⟨h1, h2, h3⟩ := ih (r.drop (((c :: r).takeWhile notNL).length - 1)) (i + 1 + (((c :: r).takeWhile notNL).length - 1)) (by rw [List.length_drop]; omega)
          rw [List.length_drop] at h1
          rw [List.drop_drop] at h2 h3
          refine ⟨by omega, ?_, ?_⟩
          · rw [h2, List.drop_succ_cons]
            congr 1
            · congr 1; omega
            · omega
          · intro c' r' e
            rw [List.drop_succ_cons] at e
            refine h3 c' r' ?_
            rw [← e]; congr 1; omega
        | false =>
          simp only [passH, hw, hp, if_false, Bool.false_eq_true]
          refine ⟨by omega, by simp, fun c' r' e => ?_⟩
          simp only [List.drop_zero, List.cons.injEq] at e
          rw [← e.1, ← e.2]
          exact ⟨hw, hp⟩
end Go.Proofs.YtgcncdjnipfolaaDoor
