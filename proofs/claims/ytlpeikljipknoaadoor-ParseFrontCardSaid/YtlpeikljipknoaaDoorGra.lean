/- Chapter 15: the grammar of expressions, in plain Lean. Chapter 15: the grammar of statements, functions and programs, in plain Lean. Chapter 15: what is read is a tree; tokens' sizes. In plain Lean. Chapter 15: strengths, one after the other, in plain Lean. -/
import Derived.Test.YtlpeikljipknoaaDoorLx
import Derived.Test.YtlpeikljipknoaaDoorSy1
import Derived.Test.YtlpeikljipknoaaDoorSy2
set_option linter.unusedSimpArgs false
set_option linter.unusedVariables false
set_option maxRecDepth 10000
namespace Go.Proofs.YtlpeikljipknoaaDoor
open Go.Al
inductive PR (α : Type) where
  | ok (a : α) (n : Nat)
  | bad (n : Nat)
def PR.bind {α β : Type} : PR α → (α → Nat → PR β) → PR β
  | .ok a n, f => f a n
  | .bad n, _ => .bad n
@[simp] theorem PR.bind_ok {α β : Type} (a : α) (n : Nat) (f : α → Nat → PR β) : (PR.ok a n).bind f = f a n := rfl
@[simp] theorem PR.bind_bad {α β : Type} (n : Nat) (f : α → Nat → PR β) : (PR.bad n : PR α).bind f = .bad n := rfl
theorem PR.bind_eq_ok {α β : Type} {x : PR α} {f : α → Nat → PR β} {b : β} {m : Nat} (h : x.bind f = .ok b m) : ∃ a n, x = .ok a n ∧ f a n = .ok b m := by
  cases x with
  | ok a n => exact ⟨a, n, rfl, h⟩
  | bad n => cases h
section
variable (T : List Tok)
def peekI (n : Nat) : Str := match T[n]? with
  | some t => if t.kind = 3 ∨ t.kind = 4 then t.text else []
  | none => []
def kindI (n : Nat) : Int := match T[n]? with
  | some t => t.kind
  | none => 0
def mustI (s : Str) (n : Nat) : PR Unit := if peekI T n = s then .ok () (n + 1) else .bad n
def takeI (k : Int) (n : Nat) : PR Tok := match T[n]? with
  | some t => if t.kind = k then .ok t (n + 1) else .bad n
  | none => .bad n
def selI : List (Str × Int × Int × Nat) → Str → Int × Int × Nat
  | [], _ => (0, 0, 0)
  | (w, r) :: l, s => if s = w then r else selI l s
def sgL : List (Str × Int × Int × Nat) := [([124, 124], 9, 0, 1), ([38, 38], 8, 0, 2), ([61, 61], 6, 15, 3), ([60], 6, 14, 4), ([124], 6, 10, 5), ([94], 6, 11, 5), ([38], 6, 9, 6), ([60, 60], 6, 12, 7), ([62, 62], 6, 13, 7),
  ([43], 6, 4, 8), ([45], 6, 5, 8), ([42], 6, 6, 9), ([47], 6, 7, 9), ([37], 6, 8, 9)]
def sgI (s : Str) : Int × Int × Nat := selI sgL s
def joinI (s : Str) (a b : Ex) : Ex := .mk (sgI s).1 (sgI s).2.1 0 [] [a, b]
mutual
def atomI : Nat → Nat → PR Ex
  | 0, n => .bad n
  | f + 1, n =>
    if kindI T n = 2 then (takeI T 2 n).bind fun t m => .ok (.mk 1 0 t.num [] []) m
    else if peekI T n = [103, 101, 116] then (mustI T [40] (n + 1)).bind fun _ m => (mustI T [41] m).bind fun _ m => .ok (.mk 5 0 0 [] []) m
    else if peekI T n = [40] then (exprI f 1 (n + 1)).bind fun e m => (mustI T [41] m).bind fun _ m => .ok e m
    else if peekI T n = [33] then (atomI f (n + 1)).bind fun e m => .ok (.mk 7 0 0 [] [e]) m
    else (takeI T 1 n).bind fun t m =>
      if peekI T m = [91] then (exprI f 1 (m + 1)).bind fun e m => (mustI T [93] m).bind fun _ m => .ok (.mk 3 0 0 t.text [e]) m
      else if peekI T m = [40] then (argsI f (m + 1)).bind fun l m => .ok (.mk 4 0 0 t.text l) m
      else .ok (.mk 2 0 0 t.text []) m
def exprI : Nat → Nat → Nat → PR Ex
  | 0, _, n => .bad n
  | f + 1, lo, n => (atomI f n).bind fun e m => loopI f lo e m
def loopI : Nat → Nat → Ex → Nat → PR Ex
  | 0, _, _, n => .bad n
  | f + 1, lo, e, n => if (sgI (peekI T n)).2.2 < lo then .ok e n
    else (exprI f ((sgI (peekI T n)).2.2 + 1) (n + 1)).bind fun e2 m => loopI f lo (joinI (peekI T n) e e2) m
def argsI : Nat → Nat → PR (List Ex)
  | 0, n => .bad n
  | f + 1, n => if peekI T n = [41] then .ok [] (n + 1) else (exprI f 1 n).bind fun e m => arglI f [e] m
def arglI : Nat → List Ex → Nat → PR (List Ex)
  | 0, _, n => .bad n
  | f + 1, acc, n => if peekI T n = [44] then (exprI f 1 (n + 1)).bind fun e m => arglI f (acc ++ [e]) m
    else (mustI T [41] n).bind fun _ m => .ok acc m
end
end
variable {T : List Tok}
theorem peek_lt {n : Nat} {s : Str} (h : peekI T n = s) (hs : s ≠ []) : n < T.length := by
  by_cases hn : n < T.length
  · exact hn
  · rw [peekI, List.getElem?_eq_none (by omega)] at h
    exact absurd h.symm hs
theorem kind_lt {n : Nat} {k : Int} (h : kindI T n = k) (hk : k ≠ 0) : n < T.length := by
  by_cases hn : n < T.length
  · exact hn
  · rw [kindI, List.getElem?_eq_none (by omega)] at h
    exact absurd h.symm hk
theorem sg_nil : sgI [] = (0, 0, 0) := by decide
theorem sel_le (k : Nat) (s : Str) : ∀ l : List (Str × Int × Int × Nat), (∀ x ∈ l, x.2.2.2 ≤ k) → (selI l s).2.2 ≤ k
  | [], _ => Nat.zero_le _
  | x :: l, h => by
    obtain ⟨w, r⟩ := x
    rw [selI]
    split
    · exact h _ (List.mem_cons_self)
    · exact sel_le k s l fun y hy => h y (List.mem_cons_of_mem _ hy)
theorem sg_le (s : Str) : (sgI s).2.2 ≤ 9 := sel_le 9 s sgL (by decide)
theorem sg_lt {n lo : Nat} (h : ¬ (sgI (peekI T n)).2.2 < lo) (hl : 1 ≤ lo) : n < T.length := by
  refine peek_lt rfl fun e => h ?_
  rw [e, sg_nil]; exact hl
theorem must_ok {s : Str} {n m : Nat} {u : Unit} (h : mustI T s n = .ok u m) (hs : s ≠ []) : m = n + 1 ∧ n < T.length ∧ peekI T n = s := by
  unfold mustI at h
  split at h
  · rename_i e; cases h; exact ⟨rfl, peek_lt e hs, e⟩
  · cases h
theorem take_ok {k : Int} {n m : Nat} {t : Tok} (h : takeI T k n = .ok t m) : m = n + 1 ∧ n < T.length ∧ T[n]? = some t ∧ t.kind = k := by
  unfold takeI at h
  split at h
  · rename_i t' e
    split at h
    · rename_i hk; cases h; exact ⟨rfl, (List.getElem?_eq_some_iff.1 e).1, e, hk⟩
    · cases h
  · cases h
theorem far (f : Nat) : (∀ n e m, atomI T f n = .ok e m → n < m ∧ m ≤ T.length) ∧ (∀ lo n e m, exprI T f lo n = .ok e m → n < m ∧ m ≤ T.length) ∧
    (∀ lo e0 n e m, n ≤ T.length → loopI T f lo e0 n = .ok e m → n ≤ m ∧ m ≤ T.length) ∧ (∀ n l m, argsI T f n = .ok l m → n < m ∧ m ≤ T.length) ∧
    (∀ acc n l m, arglI T f acc n = .ok l m → n < m ∧ m ≤ T.length) := by
  induction f with
  | zero => exact ⟨fun _ _ _ h => by simp [atomI] at h, fun _ _ _ _ h => by simp [exprI] at h, fun _ _ _ _ _ _ h => by simp [loopI] at h, fun _ _ _ h => by simp [argsI] at h, fun _ _ _ _ h => by simp [arglI] at h⟩
  | succ f ih =>
    obtain ⟨i1, i2, i3, i4, i5⟩ := ih
    refine ⟨fun n e m h => ?_, fun lo n e m h => ?_, fun lo e0 n e m hn h => ?_, fun n l m h => ?_, fun acc n l m h => ?_⟩
    · rw [atomI] at h
      split at h
      · obtain ⟨t, a, h1, h2⟩ := PR.bind_eq_ok h
        have := take_ok h1
        cases h2; omega
      split at h
      · obtain ⟨_, a, h1, h2⟩ := PR.bind_eq_ok h
        obtain ⟨_, c, h3, h4⟩ := PR.bind_eq_ok h2
        have := must_ok h1 (by decide)
        have := must_ok h3 (by decide)
        cases h4; omega
      split at h
      · obtain ⟨x, a, h1, h2⟩ := PR.bind_eq_ok h
        obtain ⟨_, c, h3, h4⟩ := PR.bind_eq_ok h2
        have := i2 _ _ _ _ h1
        have := must_ok h3 (by decide)
        cases h4; omega
      split at h
      · obtain ⟨x, a, h1, h2⟩ := PR.bind_eq_ok h
        have := i1 _ _ _ h1
        cases h2; omega
      · obtain ⟨t, a, h1, h2⟩ := PR.bind_eq_ok h
        have := take_ok h1
        split at h2
        · obtain ⟨x, c, h3, h4⟩ := PR.bind_eq_ok h2
          obtain ⟨_, d, h5, h6⟩ := PR.bind_eq_ok h4
          have := i2 _ _ _ _ h3
          have := must_ok h5 (by decide)
          cases h6; omega
        split at h2
        · obtain ⟨x, c, h3, h4⟩ := PR.bind_eq_ok h2
          have := i4 _ _ _ h3
          cases h4; omega
        · cases h2; omega
    · rw [exprI] at h
      obtain ⟨x, a, h1, h2⟩ := PR.bind_eq_ok h
      have := i1 _ _ _ h1
      have := i3 _ _ _ _ _ this.2 h2
      omega
    · rw [loopI] at h
      split at h
      · cases h; omega
      · obtain ⟨x, a, h1, h2⟩ := PR.bind_eq_ok h
        have := i2 _ _ _ _ h1
        have := i3 _ _ _ _ _ this.2 h2
        omega
    · rw [argsI] at h
      split at h
      · rename_i hp
        have := peek_lt hp (by decide)
        cases h; omega
      · obtain ⟨x, a, h1, h2⟩ := PR.bind_eq_ok h
        have := i2 _ _ _ _ h1
        have := i5 _ _ _ _ h2
        omega
    · rw [arglI] at h
      split at h
      · obtain ⟨x, a, h1, h2⟩ := PR.bind_eq_ok h
        have := i2 _ _ _ _ h1
        have := i5 _ _ _ _ h2
        omega
      · obtain ⟨_, a, h1, h2⟩ := PR.bind_eq_ok h
        have := must_ok h1 (by decide)
        cases h2; omega
theorem PR.bind_congr {α β : Type} {x y : PR α} {f g : α → Nat → PR β} (h : x = y) (hf : ∀ a n, x = .ok a n → f a n = g a n) : x.bind f = y.bind g := by
  subst h
  cases x with
  | ok a n => exact hf a n rfl
  | bad n => rfl
theorem more (f : Nat) : (∀ n, 4 * (T.length - n) + 1 ≤ f → atomI T f n = atomI T (f + 1) n) ∧ (∀ lo n, 1 ≤ lo → 4 * (T.length - n) + 2 ≤ f → exprI T f lo n = exprI T (f + 1) lo n) ∧
    (∀ lo e0 n, 1 ≤ lo → n ≤ T.length → 4 * (T.length - n) + 1 ≤ f → loopI T f lo e0 n = loopI T (f + 1) lo e0 n) ∧ (∀ n, 4 * (T.length - n) + 3 ≤ f → argsI T f n = argsI T (f + 1) n) ∧
    (∀ acc n, 4 * (T.length - n) + 1 ≤ f → arglI T f acc n = arglI T (f + 1) acc n) := by
  induction f with
  | zero => exact ⟨fun _ h => by omega, fun _ _ _ h => by omega, fun _ _ _ _ _ h => by omega, fun _ h => by omega, fun _ _ h => by omega⟩
  | succ f ih =>
    obtain ⟨i1, i2, i3, i4, i5⟩ := ih
    obtain ⟨g1, g2, g3, g4, g5⟩ := far (T := T) f
    refine ⟨fun n hn => ?_, fun lo n hl hn => ?_, fun lo e0 n hl hnl hn => ?_, fun n hn => ?_, fun acc n hn => ?_⟩
    · rw [atomI, atomI]
      split
      · rfl
      split
      · rfl
      split
      · rename_i hp
        have := peek_lt hp (by decide)
        rw [i2 1 (n + 1) (by omega) (by omega)]
      split
      · rename_i hp
        have := peek_lt hp (by decide)
        rw [i1 (n + 1) (by omega)]
      · refine PR.bind_congr rfl fun t a h1 => ?_
        have := take_ok h1
        split
        · rename_i hp
          have := peek_lt hp (by decide)
          rw [i2 1 (a + 1) (by omega) (by omega)]
        split
        · rename_i hp
          have := peek_lt hp (by decide)
          rw [i4 (a + 1) (by omega)]
        · rfl
    · rw [exprI, exprI]
      refine PR.bind_congr (i1 n (by omega)) fun x a h1 => ?_
      have := g1 _ _ _ h1
      exact i3 lo x a hl (by omega) (by omega)
    · rw [loopI, loopI]
      split
      · rfl
      · rename_i hs
        have := sg_lt hs hl
        refine PR.bind_congr (i2 _ (n + 1) (by omega) (by omega)) fun x a h1 => ?_
        have := g2 _ _ _ _ h1
        exact i3 lo _ a hl (by omega) (by omega)
    · rw [argsI, argsI]
      split
      · rfl
      · refine PR.bind_congr (i2 1 n (by omega) (by omega)) fun x a h1 => ?_
        have := g2 _ _ _ _ h1
        exact i5 _ a (by omega)
    · rw [arglI, arglI]
      split
      · rename_i hp
        have := peek_lt hp (by decide)
        refine PR.bind_congr (i2 1 (n + 1) (by omega) (by omega)) fun x a h1 => ?_
        have := g2 _ _ _ _ h1
        exact i5 _ a (by omega)
      · rfl
variable (T)
def atomP (n : Nat) : PR Ex := atomI T (4 * T.length + 5) n
def exprP (lo n : Nat) : PR Ex := exprI T (4 * T.length + 5) lo n
def loopP (lo : Nat) (e : Ex) (n : Nat) : PR Ex := loopI T (4 * T.length + 5) lo e n
def argsP (n : Nat) : PR (List Ex) := argsI T (4 * T.length + 5) n
def arglP (acc : List Ex) (n : Nat) : PR (List Ex) := arglI T (4 * T.length + 5) acc n
theorem atomP_eq (n : Nat) : atomP T n =
    if kindI T n = 2 then (takeI T 2 n).bind fun t m => .ok (.mk 1 0 t.num [] []) m
    else if peekI T n = [103, 101, 116] then (mustI T [40] (n + 1)).bind fun _ m => (mustI T [41] m).bind fun _ m => .ok (.mk 5 0 0 [] []) m
    else if peekI T n = [40] then (exprP T 1 (n + 1)).bind fun e m => (mustI T [41] m).bind fun _ m => .ok e m
    else if peekI T n = [33] then (atomP T (n + 1)).bind fun e m => .ok (.mk 7 0 0 [] [e]) m
    else (takeI T 1 n).bind fun t m =>
      if peekI T m = [91] then (exprP T 1 (m + 1)).bind fun e m => (mustI T [93] m).bind fun _ m => .ok (.mk 3 0 0 t.text [e]) m
      else if peekI T m = [40] then (argsP T (m + 1)).bind fun l m => .ok (.mk 4 0 0 t.text l) m
      else .ok (.mk 2 0 0 t.text []) m := by
  obtain ⟨i1, i2, i3, i4, i5⟩ := more (T := T) (4 * T.length + 4)
  rw [atomP, atomI]
  have e1 : ∀ n, atomI T (4 * T.length + 4) n = atomP T n := fun n => i1 n (by omega)
  have e2 : ∀ n, exprI T (4 * T.length + 4) 1 n = exprP T 1 n := fun n => i2 1 n (Nat.le_refl 1) (by omega)
  have e4 : ∀ n, argsI T (4 * T.length + 4) n = argsP T n := fun n => i4 n (by omega)
  simp only [e1, e2, e4]
theorem exprP_eq (lo n : Nat) (hl : 1 ≤ lo) : exprP T lo n = (atomP T n).bind fun e m => loopP T lo e m := by
  obtain ⟨i1, i2, i3, i4, i5⟩ := more (T := T) (4 * T.length + 4)
  obtain ⟨g1, _⟩ := far (T := T) (4 * T.length + 4)
  rw [exprP, exprI]
  refine PR.bind_congr (i1 n (by omega)) fun x a h => ?_
  exact i3 lo x a hl (g1 _ _ _ h).2 (by omega)
theorem loopP_eq (lo : Nat) (e : Ex) (n : Nat) (hl : 1 ≤ lo) : loopP T lo e n = if (sgI (peekI T n)).2.2 < lo then .ok e n
    else (exprP T ((sgI (peekI T n)).2.2 + 1) (n + 1)).bind fun e2 m => loopP T lo (joinI (peekI T n) e e2) m := by
  obtain ⟨i1, i2, i3, i4, i5⟩ := more (T := T) (4 * T.length + 4)
  obtain ⟨_, g2, _⟩ := far (T := T) (4 * T.length + 4)
  rw [loopP, loopI]
  split
  · rfl
  · refine PR.bind_congr (i2 _ _ (by omega) (by omega)) fun x a h => ?_
    exact i3 lo _ a hl (g2 _ _ _ _ h).2 (by omega)
theorem argsP_eq (n : Nat) : argsP T n = if peekI T n = [41] then .ok [] (n + 1) else (exprP T 1 n).bind fun e m => arglP T [e] m := by
  obtain ⟨i1, i2, i3, i4, i5⟩ := more (T := T) (4 * T.length + 4)
  rw [argsP, argsI]
  split
  · rfl
  · exact PR.bind_congr (i2 _ _ (by omega) (by omega)) fun x a h => i5 _ a (by omega)
theorem arglP_eq (acc : List Ex) (n : Nat) : arglP T acc n = if peekI T n = [44] then (exprP T 1 (n + 1)).bind fun e m => arglP T (acc ++ [e]) m
    else (mustI T [41] n).bind fun _ m => .ok acc m := by
  obtain ⟨i1, i2, i3, i4, i5⟩ := more (T := T) (4 * T.length + 4)
  rw [arglP, arglI]
  split
  · exact PR.bind_congr (i2 _ _ (by omega) (by omega)) fun x a h => i5 _ a (by omega)
  · rfl
variable {T}
theorem atomP_far {n m : Nat} {e : Ex} (h : atomP T n = .ok e m) : n < m ∧ m ≤ T.length := (far _).1 _ _ _ h
theorem exprP_far {lo n m : Nat} {e : Ex} (h : exprP T lo n = .ok e m) : n < m ∧ m ≤ T.length := (far _).2.1 _ _ _ _ h
theorem loopP_far {lo n m : Nat} {e e0 : Ex} (hn : n ≤ T.length) (h : loopP T lo e0 n = .ok e m) : n ≤ m ∧ m ≤ T.length := (far _).2.2.1 _ _ _ _ _ hn h
theorem argsP_far {n m : Nat} {e : List Ex} (h : argsP T n = .ok e m) : n < m ∧ m ≤ T.length := (far _).2.2.2.1 _ _ _ h
theorem arglP_far {n m : Nat} {e acc : List Ex} (h : arglP T acc n = .ok e m) : n < m ∧ m ≤ T.length := (far _).2.2.2.2 _ _ _ _ h
end Go.Proofs.YtlpeikljipknoaaDoor

namespace Go.Proofs.YtlpeikljipknoaaDoor
open Go.Al
def wVar : Str := [118, 97, 114]
def wArray : Str := [97, 114, 114, 97, 121]
def wFunc : Str := [102, 117, 110, 99]
def wWord : Str := [119, 111, 114, 100]
def wIf : Str := [105, 102]
def wElse : Str := [101, 108, 115, 101]
def wWhile : Str := [119, 104, 105, 108, 101]
def wReturn : Str := [114, 101, 116, 117, 114, 110]
def wPut : Str := [112, 117, 116]
section
variable (T : List Tok)
def roundP (n : Nat) : PR (List Ex) := (mustI T [40] n).bind fun _ m => (exprP T 1 m).bind fun e m => (mustI T [41] m).bind fun _ m => .ok [e] m
def namedP (n : Nat) : PR Sm := (takeI T 1 n).bind fun t m =>
  (if peekI T m = [61] then (exprP T 1 (m + 1)).bind fun e m => .ok (.mk 1 t.text [e] [] []) m
   else if peekI T m = [91] then (exprP T 1 (m + 1)).bind fun a m => (mustI T [93] m).bind fun _ m => (mustI T [61] m).bind fun _ m => (exprP T 1 m).bind fun e m => .ok (.mk 2 t.text [a, e] [] []) m
   else if peekI T m = [40] then (argsP T (m + 1)).bind fun l m => .ok (.mk 6 t.text l [] []) m
   else .bad m : PR Sm).bind fun s m => (mustI T [59] m).bind fun _ m => .ok s m
mutual
def stmtI : Nat → Nat → PR Sm
  | 0, n => .bad n
  | f + 1, n =>
    if peekI T n = wPut then (roundP T (n + 1)).bind fun l m => (mustI T [59] m).bind fun _ m => .ok (.mk 3 [] l [] []) m
    else if peekI T n = wReturn then (if peekI T (n + 1) = [59] then .ok (.mk 7 [] [] [] []) (n + 2) else (exprP T 1 (n + 1)).bind fun e m => (mustI T [59] m).bind fun _ m => .ok (.mk 7 [] [e] [] []) m)
    else if peekI T n = wIf then (roundP T (n + 1)).bind fun l m => (bodyI f m).bind fun t m => if peekI T m = wElse then (bodyI f (m + 1)).bind fun u m => .ok (.mk 4 [] l t u) m else .ok (.mk 4 [] l t []) m
    else if peekI T n = wWhile then (roundP T (n + 1)).bind fun l m => (bodyI f m).bind fun t m => .ok (.mk 5 [] l t []) m
    else namedP T n
def bodyI : Nat → Nat → PR (List Sm)
  | 0, n => .bad n
  | f + 1, n => (mustI T [123] n).bind fun _ m => stmtsI f [] m
def stmtsI : Nat → List Sm → Nat → PR (List Sm)
  | 0, _, n => .bad n
  | f + 1, acc, n => if peekI T n = [125] then .ok acc (n + 1) else (stmtI f n).bind fun s m => stmtsI f (acc ++ [s]) m
end
def nmI : Nat → List Str → Nat → PR (List Str)
  | 0, _, n => .bad n
  | f + 1, acc, n => if peekI T n = [44] then (takeI T 1 (n + 1)).bind fun t m => nmI f (acc ++ [t.text]) m else .ok acc n
end
variable {T : List Tok}
theorem round_far {n m : Nat} {l : List Ex} (h : roundP T n = .ok l m) : n < m ∧ m ≤ T.length := by
  unfold roundP at h
  obtain ⟨_, a, h1, h2⟩ := PR.bind_eq_ok h
  obtain ⟨e, c, h3, h4⟩ := PR.bind_eq_ok h2
  obtain ⟨_, d, h5, h6⟩ := PR.bind_eq_ok h4
  have := must_ok h1 (by decide)
  have := exprP_far h3
  have := must_ok h5 (by decide)
  cases h6; omega
theorem named_far {n m : Nat} {s : Sm} (h : namedP T n = .ok s m) : n < m ∧ m ≤ T.length := by
  unfold namedP at h
  obtain ⟨t, a, h1, h2⟩ := PR.bind_eq_ok h
  obtain ⟨x, c, h3, h4⟩ := PR.bind_eq_ok h2
  obtain ⟨_, d, h5, h6⟩ := PR.bind_eq_ok h4
  have := take_ok h1
  have := must_ok h5 (by decide)
  have : a < c := by
    split at h3
    · obtain ⟨y, b, g1, g2⟩ := PR.bind_eq_ok h3
      have := exprP_far g1
      cases g2; omega
    split at h3
    · obtain ⟨y, b, g1, g2⟩ := PR.bind_eq_ok h3
      obtain ⟨_, b2, g3, g4⟩ := PR.bind_eq_ok g2
      obtain ⟨_, b3, g5, g6⟩ := PR.bind_eq_ok g4
      obtain ⟨z, b4, g7, g8⟩ := PR.bind_eq_ok g6
      have := exprP_far g1
      have := must_ok g3 (by decide)
      have := must_ok g5 (by decide)
      have := exprP_far g7
      cases g8; omega
    split at h3
    · obtain ⟨y, b, g1, g2⟩ := PR.bind_eq_ok h3
      have := argsP_far g1
      cases g2; omega
    · cases h3
  cases h6; omega
theorem farS (f : Nat) : (∀ n e m, stmtI T f n = .ok e m → n < m ∧ m ≤ T.length) ∧ (∀ n l m, bodyI T f n = .ok l m → n < m ∧ m ≤ T.length) ∧ (∀ acc n l m, stmtsI T f acc n = .ok l m → n < m ∧ m ≤ T.length) := by
  induction f with
  | zero => exact ⟨fun _ _ _ h => by simp [stmtI] at h, fun _ _ _ h => by simp [bodyI] at h, fun _ _ _ _ h => by simp [stmtsI] at h⟩
  | succ f ih =>
    obtain ⟨i1, i2, i3⟩ := ih
    refine ⟨fun n e m h => ?_, fun n l m h => ?_, fun acc n l m h => ?_⟩
    · rw [stmtI] at h
      split at h
      · obtain ⟨l, a, h1, h2⟩ := PR.bind_eq_ok h
        obtain ⟨_, c, h3, h4⟩ := PR.bind_eq_ok h2
        have := round_far h1
        have := must_ok h3 (by decide)
        cases h4; omega
      split at h
      · split at h
        · rename_i hp
          have := peek_lt hp (by decide)
          cases h; omega
        · obtain ⟨l, a, h1, h2⟩ := PR.bind_eq_ok h
          obtain ⟨_, c, h3, h4⟩ := PR.bind_eq_ok h2
          have := exprP_far h1
          have := must_ok h3 (by decide)
          cases h4; omega
      split at h
      · obtain ⟨l, a, h1, h2⟩ := PR.bind_eq_ok h
        obtain ⟨t, c, h3, h4⟩ := PR.bind_eq_ok h2
        have := round_far h1
        have := i2 _ _ _ h3
        split at h4
        · obtain ⟨u, d, h5, h6⟩ := PR.bind_eq_ok h4
          have := i2 _ _ _ h5
          cases h6; omega
        · cases h4; omega
      split at h
      · obtain ⟨l, a, h1, h2⟩ := PR.bind_eq_ok h
        obtain ⟨t, c, h3, h4⟩ := PR.bind_eq_ok h2
        have := round_far h1
        have := i2 _ _ _ h3
        cases h4; omega
      · exact named_far h
    · rw [bodyI] at h
      obtain ⟨_, a, h1, h2⟩ := PR.bind_eq_ok h
      have := must_ok h1 (by decide)
      have := i3 _ _ _ _ h2
      omega
    · rw [stmtsI] at h
      split at h
      · rename_i hp
        have := peek_lt hp (by decide)
        cases h; omega
      · obtain ⟨s, a, h1, h2⟩ := PR.bind_eq_ok h
        have := i1 _ _ _ h1
        have := i3 _ _ _ _ h2
        omega
theorem moreS (f : Nat) : (∀ n, 4 * (T.length - n) + 1 ≤ f → stmtI T f n = stmtI T (f + 1) n) ∧ (∀ n, 4 * (T.length - n) + 1 ≤ f → bodyI T f n = bodyI T (f + 1) n) ∧ (∀ acc n, 4 * (T.length - n) + 2 ≤ f → stmtsI T f acc n = stmtsI T (f + 1) acc n) := by
  induction f with
  | zero => exact ⟨fun _ h => by omega, fun _ h => by omega, fun _ _ h => by omega⟩
  | succ f ih =>
    obtain ⟨i1, i2, i3⟩ := ih
    obtain ⟨g1, g2, g3⟩ := farS (T := T) f
    refine ⟨fun n hn => ?_, fun n hn => ?_, fun acc n hn => ?_⟩
    · rw [stmtI, stmtI]
      split
      · rfl
      split
      · rfl
      split
      · refine PR.bind_congr rfl fun l a h1 => ?_
        have := round_far h1
        refine PR.bind_congr (i2 a (by omega)) fun t c h2 => ?_
        have := g2 _ _ _ h2
        split
        · rename_i hp
          have := peek_lt hp (by decide)
          rw [i2 (c + 1) (by omega)]
        · rfl
      split
      · refine PR.bind_congr rfl fun l a h1 => ?_
        have := round_far h1
        rw [i2 a (by omega)]
      · rfl
    · rw [bodyI, bodyI]
      refine PR.bind_congr rfl fun l a h1 => ?_
      have := must_ok h1 (by decide)
      exact i3 _ a (by omega)
    · rw [stmtsI, stmtsI]
      split
      · rfl
      · refine PR.bind_congr (i1 n (by omega)) fun s a h1 => ?_
        have := g1 _ _ _ h1
        exact i3 _ a (by omega)
theorem farN (f : Nat) : ∀ acc n l m, n ≤ T.length → nmI T f acc n = .ok l m → n ≤ m ∧ m ≤ T.length := by
  induction f with
  | zero => intro _ _ _ _ _ h; simp [nmI] at h
  | succ f ih =>
    intro acc n l m hn h
    rw [nmI] at h
    split at h
    · obtain ⟨s, a, h1, h2⟩ := PR.bind_eq_ok h
      have := take_ok h1
      have := ih _ _ _ _ (by omega) h2
      omega
    · cases h; omega
theorem moreN (f : Nat) : ∀ acc n, n ≤ T.length → (T.length - n) + 1 ≤ f → nmI T f acc n = nmI T (f + 1) acc n := by
  induction f with
  | zero => intro _ _ _ h; omega
  | succ f ih =>
    intro acc n hn h
    rw [nmI, nmI]
    split
    · refine PR.bind_congr rfl fun t a h1 => ?_
      have := take_ok h1
      exact ih _ _ (by omega) (by omega)
    · rfl
variable (T)
def stmtP (n : Nat) : PR Sm := stmtI T (4 * T.length + 5) n
def bodyP (n : Nat) : PR (List Sm) := bodyI T (4 * T.length + 5) n
def stmtsP (acc : List Sm) (n : Nat) : PR (List Sm) := stmtsI T (4 * T.length + 5) acc n
def nmP (acc : List Str) (n : Nat) : PR (List Str) := nmI T (T.length + 2) acc n
def namesP (n : Nat) : PR (List Str) := (takeI T 1 n).bind fun t m => nmP T [t.text] m
theorem stmtP_eq (n : Nat) : stmtP T n =
    if peekI T n = wPut then (roundP T (n + 1)).bind fun l m => (mustI T [59] m).bind fun _ m => .ok (.mk 3 [] l [] []) m
    else if peekI T n = wReturn then (if peekI T (n + 1) = [59] then .ok (.mk 7 [] [] [] []) (n + 2) else (exprP T 1 (n + 1)).bind fun e m => (mustI T [59] m).bind fun _ m => .ok (.mk 7 [] [e] [] []) m)
    else if peekI T n = wIf then (roundP T (n + 1)).bind fun l m => (bodyP T m).bind fun t m => if peekI T m = wElse then (bodyP T (m + 1)).bind fun u m => .ok (.mk 4 [] l t u) m else .ok (.mk 4 [] l t []) m
    else if peekI T n = wWhile then (roundP T (n + 1)).bind fun l m => (bodyP T m).bind fun t m => .ok (.mk 5 [] l t []) m
    else namedP T n := by
  obtain ⟨_, i2, _⟩ := moreS (T := T) (4 * T.length + 4)
  have e2 : ∀ n, bodyI T (4 * T.length + 4) n = bodyP T n := fun n => i2 n (by omega)
  rw [stmtP, stmtI]
  simp only [e2]
theorem bodyP_eq (n : Nat) : bodyP T n = (mustI T [123] n).bind fun _ m => stmtsP T [] m := by
  obtain ⟨_, _, i3⟩ := moreS (T := T) (4 * T.length + 4)
  rw [bodyP, bodyI]
  exact PR.bind_congr rfl fun x a h => i3 _ a (by omega)
theorem stmtsP_eq (acc : List Sm) (n : Nat) : stmtsP T acc n = if peekI T n = [125] then .ok acc (n + 1) else (stmtP T n).bind fun s m => stmtsP T (acc ++ [s]) m := by
  obtain ⟨i1, _, i3⟩ := moreS (T := T) (4 * T.length + 4)
  rw [stmtsP, stmtsI]
  split
  · rfl
  · exact PR.bind_congr (i1 n (by omega)) fun x a h => i3 _ a (by omega)
theorem nmP_eq (acc : List Str) (n : Nat) : nmP T acc n = if peekI T n = [44] then (takeI T 1 (n + 1)).bind fun t m => nmP T (acc ++ [t.text]) m else .ok acc n := by
  rw [nmP, nmI]
  split
  · refine PR.bind_congr rfl fun x a h => ?_
    have := take_ok h
    exact moreN _ _ a (by omega) (by omega)
  · rfl
variable {T}
theorem stmtP_far {n m : Nat} {e : Sm} (h : stmtP T n = .ok e m) : n < m ∧ m ≤ T.length := (farS _).1 _ _ _ h
theorem bodyP_far {n m : Nat} {e : List Sm} (h : bodyP T n = .ok e m) : n < m ∧ m ≤ T.length := (farS _).2.1 _ _ _ h
theorem stmtsP_far {n m : Nat} {e acc : List Sm} (h : stmtsP T acc n = .ok e m) : n < m ∧ m ≤ T.length := (farS _).2.2 _ _ _ _ h
theorem nmP_far {n m : Nat} {e acc : List Str} (hn : n ≤ T.length) (h : nmP T acc n = .ok e m) : n ≤ m ∧ m ≤ T.length := farN _ _ _ _ _ hn h
theorem namesP_far {n m : Nat} {e : List Str} (h : namesP T n = .ok e m) : n < m ∧ m ≤ T.length := by
  obtain ⟨t, a, h1, h2⟩ := PR.bind_eq_ok h
  have := take_ok h1
  have := nmP_far (by omega) h2
  omega
/-! ### functions, programs -/
def locI (T : List Tok) : Nat → List Str → Nat → PR (List Str)
  | 0, _, n => .bad n
  | f + 1, acc, n => if peekI T n = wVar then (namesP T (n + 1)).bind fun l m => (mustI T [59] m).bind fun _ m => locI T f (acc ++ l) m else .ok acc n
theorem farL (f : Nat) : ∀ acc n l m, n ≤ T.length → locI T f acc n = .ok l m → n ≤ m ∧ m ≤ T.length := by
  induction f with
  | zero => intro _ _ _ _ _ h; simp [locI] at h
  | succ f ih =>
    intro acc n l m hn h
    rw [locI] at h
    split at h
    · obtain ⟨s, a, h1, h2⟩ := PR.bind_eq_ok h
      obtain ⟨_, c, h3, h4⟩ := PR.bind_eq_ok h2
      have := namesP_far h1
      have := must_ok h3 (by decide)
      have := ih _ _ _ _ (by omega) h4
      omega
    · cases h; omega
theorem moreL (f : Nat) : ∀ acc n, n ≤ T.length → (T.length - n) + 1 ≤ f → locI T f acc n = locI T (f + 1) acc n := by
  induction f with
  | zero => intro _ _ _ h; omega
  | succ f ih =>
    intro acc n hn h
    rw [locI, locI]
    split
    · refine PR.bind_congr rfl fun t a h1 => PR.bind_congr rfl fun _ c h2 => ?_
      have := namesP_far h1
      have := must_ok h2 (by decide)
      exact ih _ _ (by omega) (by omega)
    · rfl
def locP (T : List Tok) (acc : List Str) (n : Nat) : PR (List Str) := locI T (T.length + 2) acc n
theorem locP_eq (T : List Tok) (acc : List Str) (n : Nat) : locP T acc n = if peekI T n = wVar then (namesP T (n + 1)).bind fun l m => (mustI T [59] m).bind fun _ m => locP T (acc ++ l) m else .ok acc n := by
  rw [locP, locI]
  split
  · refine PR.bind_congr rfl fun x a h => PR.bind_congr rfl fun _ c h2 => ?_
    have := must_ok h2 (by decide)
    exact moreL _ _ c (by omega) (by omega)
  · rfl
theorem locP_far {n m : Nat} {e acc : List Str} (hn : n ≤ T.length) (h : locP T acc n = .ok e m) : n ≤ m ∧ m ≤ T.length := farL _ _ _ _ _ hn h
def funP (T : List Tok) (n : Nat) : PR Fu := (mustI T wFunc n).bind fun _ m => (takeI T 1 m).bind fun t m => (mustI T [40] m).bind fun _ m =>
  (if kindI T m = 1 then namesP T m else .ok [] m : PR (List Str)).bind fun ps m => (mustI T [41] m).bind fun _ m =>
    (mustI T [123] (if peekI T m = wWord then m + 1 else m)).bind fun _ c => (locP T [] c).bind fun ls c => (stmtsP T [] c).bind fun b c => .ok ⟨t.text, ps, ls, decide (peekI T m = wWord), b⟩ c
theorem funP_far {n m : Nat} {g : Fu} (h : funP T n = .ok g m) : n < m ∧ m ≤ T.length := by
  unfold funP at h
  obtain ⟨_, a1, h1, h⟩ := PR.bind_eq_ok h
  obtain ⟨t, a2, h2, h⟩ := PR.bind_eq_ok h
  obtain ⟨_, a3, h3, h⟩ := PR.bind_eq_ok h
  obtain ⟨ps, a4, h4, h⟩ := PR.bind_eq_ok h
  obtain ⟨_, a5, h5, h⟩ := PR.bind_eq_ok h
  obtain ⟨_, a6, h6, h⟩ := PR.bind_eq_ok h
  obtain ⟨ls, a7, h7, h⟩ := PR.bind_eq_ok h
  obtain ⟨b, a8, h8, h⟩ := PR.bind_eq_ok h
  have := must_ok h1 (by decide)
  have := take_ok h2
  have := must_ok h3 (by decide)
  have : a3 ≤ a4 := by
    split at h4
    · have := namesP_far h4; omega
    · cases h4; omega
  have := must_ok h5 (by decide)
  have h6' := must_ok h6 (by decide)
  have : a5 < a6 := by have := h6'.1; split at this <;> omega
  have := locP_far (by omega) h7
  have := stmtsP_far h8
  cases h; omega
def headI (T : List Tok) : Nat → List Str → List Ar → Nat → PR (List Str × List Ar)
  | 0, _, _, n => .bad n
  | f + 1, vs, as', n =>
    if peekI T n = wVar then (namesP T (n + 1)).bind fun l m => (mustI T [59] m).bind fun _ m => headI T f (vs ++ l) as' m
    else if peekI T n = wArray then (takeI T 1 (n + 1)).bind fun t m => (mustI T [91] m).bind fun _ m => (takeI T 2 m).bind fun u m => (mustI T [93] m).bind fun _ m => (mustI T [59] m).bind fun _ m => headI T f vs (as' ++ [⟨t.text, u.num⟩]) m
    else .ok (vs, as') n
theorem farH (f : Nat) : ∀ vs as' n l m, n ≤ T.length → headI T f vs as' n = .ok l m → n ≤ m ∧ m ≤ T.length := by
  induction f with
  | zero => intro _ _ _ _ _ _ h; simp [headI] at h
  | succ f ih =>
    intro vs as' n l m hn h
    rw [headI] at h
    split at h
    · obtain ⟨s, a, h1, h2⟩ := PR.bind_eq_ok h
      obtain ⟨_, c, h3, h4⟩ := PR.bind_eq_ok h2
      have := namesP_far h1
      have := must_ok h3 (by decide)
      have := ih _ _ _ _ _ (by omega) h4
      omega
    split at h
    · obtain ⟨t, a1, h1, h⟩ := PR.bind_eq_ok h
      obtain ⟨_, a2, h2, h⟩ := PR.bind_eq_ok h
      obtain ⟨u, a3, h3, h⟩ := PR.bind_eq_ok h
      obtain ⟨_, a4, h4, h⟩ := PR.bind_eq_ok h
      obtain ⟨_, a5, h5, h⟩ := PR.bind_eq_ok h
      have := take_ok h1
      have := must_ok h2 (by decide)
      have := take_ok h3
      have := must_ok h4 (by decide)
      have := must_ok h5 (by decide)
      have := ih _ _ _ _ _ (by omega) h
      omega
    · cases h; omega
theorem moreH (f : Nat) : ∀ vs as' n, n ≤ T.length → (T.length - n) + 1 ≤ f → headI T f vs as' n = headI T (f + 1) vs as' n := by
  induction f with
  | zero => intro _ _ _ _ h; omega
  | succ f ih =>
    intro vs as' n hn h
    rw [headI, headI]
    split
    · refine PR.bind_congr rfl fun t a h1 => PR.bind_congr rfl fun _ c h2 => ?_
      have := namesP_far h1
      have := must_ok h2 (by decide)
      exact ih _ _ _ (by omega) (by omega)
    split
    · refine PR.bind_congr rfl fun t a1 h1 => PR.bind_congr rfl fun _ a2 h2 => PR.bind_congr rfl fun u a3 h3 => PR.bind_congr rfl fun _ a4 h4 => PR.bind_congr rfl fun _ a5 h5 => ?_
      have := take_ok h1
      have := must_ok h2 (by decide)
      have := take_ok h3
      have := must_ok h4 (by decide)
      have := must_ok h5 (by decide)
      exact ih _ _ _ (by omega) (by omega)
    · rfl
def headP (T : List Tok) (vs : List Str) (as' : List Ar) (n : Nat) : PR (List Str × List Ar) := headI T (T.length + 2) vs as' n
theorem headP_eq (T : List Tok) (vs : List Str) (as' : List Ar) (n : Nat) : headP T vs as' n =
    if peekI T n = wVar then (namesP T (n + 1)).bind fun l m => (mustI T [59] m).bind fun _ m => headP T (vs ++ l) as' m
    else if peekI T n = wArray then (takeI T 1 (n + 1)).bind fun t m => (mustI T [91] m).bind fun _ m => (takeI T 2 m).bind fun u m => (mustI T [93] m).bind fun _ m => (mustI T [59] m).bind fun _ m => headP T vs (as' ++ [⟨t.text, u.num⟩]) m
    else .ok (vs, as') n := by
  rw [headP, headI]
  split
  · refine PR.bind_congr rfl fun x a h => PR.bind_congr rfl fun _ c h2 => ?_
    have := must_ok h2 (by decide)
    exact moreH _ _ _ c (by omega) (by omega)
  split
  · refine PR.bind_congr rfl fun t a1 h1 => PR.bind_congr rfl fun _ a2 h2 => PR.bind_congr rfl fun u a3 h3 => PR.bind_congr rfl fun _ a4 h4 => PR.bind_congr rfl fun _ a5 h5 => ?_
    have := must_ok h5 (by decide)
    exact moreH _ _ _ a5 (by omega) (by omega)
  · rfl
theorem headP_far {n m : Nat} {e : List Str × List Ar} {vs : List Str} {as' : List Ar} (hn : n ≤ T.length) (h : headP T vs as' n = .ok e m) : n ≤ m ∧ m ≤ T.length := farH _ _ _ _ _ _ hn h
def funsI (T : List Tok) : Nat → List Fu → Nat → PR (List Fu)
  | 0, _, n => .bad n
  | f + 1, acc, n => if n < T.length then (funP T n).bind fun g m => funsI T f (acc ++ [g]) m else .ok acc n
theorem farF (f : Nat) : ∀ acc n l m, n ≤ T.length → funsI T f acc n = .ok l m → m = T.length := by
  induction f with
  | zero => intro _ _ _ _ _ h; simp [funsI] at h
  | succ f ih =>
    intro acc n l m hn h
    rw [funsI] at h
    split at h
    · obtain ⟨s, a, h1, h2⟩ := PR.bind_eq_ok h
      have := funP_far h1
      exact ih _ _ _ _ (by omega) h2
    · cases h; omega
theorem moreF (f : Nat) : ∀ acc n, n ≤ T.length → (T.length - n) + 1 ≤ f → funsI T f acc n = funsI T (f + 1) acc n := by
  induction f with
  | zero => intro _ _ _ h; omega
  | succ f ih =>
    intro acc n hn h
    rw [funsI, funsI]
    split
    · refine PR.bind_congr rfl fun t a h1 => ?_
      have := funP_far h1
      exact ih _ _ (by omega) (by omega)
    · rfl
def funsP (T : List Tok) (acc : List Fu) (n : Nat) : PR (List Fu) := funsI T (T.length + 2) acc n
theorem funsP_eq (T : List Tok) (acc : List Fu) (n : Nat) : funsP T acc n = if n < T.length then (funP T n).bind fun g m => funsP T (acc ++ [g]) m else .ok acc n := by
  rw [funsP, funsI]
  split
  · refine PR.bind_congr rfl fun x a h => ?_
    have := funP_far h
    exact moreF _ _ a (by omega) (by omega)
  · rfl
theorem funsP_far {n m : Nat} {e acc : List Fu} (hn : n ≤ T.length) (h : funsP T acc n = .ok e m) : m = T.length := farF _ _ _ _ _ hn h
def progP (T : List Tok) (n : Nat) : PR Pg := (headP T [] [] n).bind fun va m => (funP T m).bind fun g m => (funsP T [g] m).bind fun fs m => .ok ⟨va.1, va.2, fs⟩ m
def atI (T : List Tok) (e n : Nat) : Int := match T[n]? with
  | some t => t.pos
  | none => e
def pgZ : Pg := ⟨[], [], []⟩
def exZ : Ex := .mk 0 0 0 [] []
def srcP (s : Str) : Pg × Int × Int := match lexS s with
  | .error (i, e) => (pgZ, i, e)
  | .ok T => match progP T 0 with
    | .bad m => (pgZ, atI T s.length m, 3)
    | .ok p m => if m < T.length then (pgZ, atI T s.length m, 3) else if rightP p = true then (p, 0, 0) else (pgZ, 0, 2)
def aloneP (e : Ex) : Pg := ⟨[], [], [⟨[109, 97, 105, 110], [], [], false, [.mk 3 [] [e] [] []]⟩]⟩
def srcE (s : Str) : Ex × Int × Int := match lexS s with
  | .error (i, e) => (exZ, i, e)
  | .ok T => match exprP T 1 0 with
    | .bad m => (exZ, atI T s.length m, 3)
    | .ok x m => if m < T.length then (exZ, atI T s.length m, 3) else if rightP (aloneP x) = true then (x, 0, 0) else (exZ, 0, 2)
end Go.Proofs.YtlpeikljipknoaaDoor

namespace Go.Proofs.YtlpeikljipknoaaDoor
open Go.Al
structure Sz (T : List Tok) : Prop where
  len : T.length ≤ 1000000
  tok : ∀ t ∈ T, u32R t.num ∧ t.text.length ≤ 1000000
variable {T : List Tok}
theorem ok_mk (k o : Int) (hk : i64R k) (ho : i64R o) {n : Int} (hn : u32R n) {s : Str} (hs : fitL s) {l : List Ex} (hl : okE l) : (Ex.mk k o n s l).ok := .mk _ _ _ _ _ hk ho hn hs hl.fit hl.all
theorem u0 : u32R 0 := by simp [u32R]
theorem f0L {α : Type} : fitL ([] : List α) := by simp [fitL]
theorem okE0 : okE [] := ⟨f0L, fun e h => by cases h⟩
theorem okE1 {e : Ex} (h : e.ok) : okE [e] := ⟨by simp [fitL], fun x hx => by rw [List.mem_singleton] at hx; rw [hx]; exact h⟩
theorem okE2 {e f : Ex} (h : e.ok) (h' : f.ok) : okE [e, f] := ⟨by simp [fitL], fun x hx => by
  rcases List.mem_cons.1 hx with rfl | hx
  · exact h
  · rw [List.mem_singleton] at hx; rw [hx]; exact h'⟩
theorem okE_snoc {l : List Ex} {e : Ex} (hl : l.length ≤ 1000000) (h : okE l) (he : e.ok) : okE (l ++ [e]) := ⟨by unfold fitL; simp only [List.length_append, List.length_singleton]; omega, fun x hx => by
  rcases List.mem_append.1 hx with hx | hx
  · exact h.all x hx
  · rw [List.mem_singleton] at hx; rw [hx]; exact he⟩
theorem take_sz (hT : Sz T) {k : Int} {n m : Nat} {t : Tok} (h : takeI T k n = .ok t m) : u32R t.num ∧ fitL t.text ∧ t.text.length ≤ 1000000 := by
  have := take_ok h
  have h2 := hT.tok t (List.mem_of_getElem? this.2.2.1)
  exact ⟨h2.1, by unfold fitL; omega, h2.2⟩
theorem join_ok (s : Str) {a b : Ex} (ha : a.ok) (hb : b.ok) : (joinI s a b).ok := by
  have key : ∀ (l : List (Str × Int × Int × Nat)), (∀ x ∈ l, i64R x.2.1 ∧ i64R x.2.2.1) → i64R (selI l s).1 ∧ i64R (selI l s).2.1 := by
    intro l
    induction l with
    | nil => intro _; simp [selI, i64R]
    | cons x l ih =>
      intro h
      obtain ⟨w, r⟩ := x
      rw [selI]
      split
      · exact h _ (List.mem_cons_self)
      · exact ih fun y hy => h y (List.mem_cons_of_mem _ hy)
  have h := key sgL (by simp [sgL, i64R])
  exact ok_mk _ _ h.1 h.2 u0 f0L (okE2 ha hb)
theorem oks (hT : Sz T) (f : Nat) : (∀ n e m, atomI T f n = .ok e m → e.ok) ∧ (∀ lo n e m, exprI T f lo n = .ok e m → e.ok) ∧
    (∀ lo e0 n e m, e0.ok → loopI T f lo e0 n = .ok e m → e.ok) ∧ (∀ n l m, argsI T f n = .ok l m → okE l) ∧
    (∀ acc n l m, okE acc → acc.length ≤ n → arglI T f acc n = .ok l m → okE l) := by
  induction f with
  | zero => exact ⟨fun _ _ _ h => by simp [atomI] at h, fun _ _ _ _ h => by simp [exprI] at h, fun _ _ _ _ _ _ h => by simp [loopI] at h, fun _ _ _ h => by simp [argsI] at h, fun _ _ _ _ _ _ h => by simp [arglI] at h⟩
  | succ f ih =>
    obtain ⟨i1, i2, i3, i4, i5⟩ := ih
    obtain ⟨g1, g2, g3, g4, g5⟩ := far (T := T) f
    have hlen := hT.len
    refine ⟨fun n e m h => ?_, fun lo n e m h => ?_, fun lo e0 n e m h0 h => ?_, fun n l m h => ?_, fun acc n l m ha hal h => ?_⟩
    · rw [atomI] at h
      split at h
      · obtain ⟨t, a, h1, h2⟩ := PR.bind_eq_ok h
        cases h2
        exact ok_mk _ _ (by simp [i64R]) (by simp [i64R]) (take_sz hT h1).1 f0L okE0
      split at h
      · obtain ⟨_, a, h1, h2⟩ := PR.bind_eq_ok h
        obtain ⟨_, c, h3, h4⟩ := PR.bind_eq_ok h2
        cases h4
        exact ok_mk _ _ (by simp [i64R]) (by simp [i64R]) u0 f0L okE0
      split at h
      · obtain ⟨x, a, h1, h2⟩ := PR.bind_eq_ok h
        obtain ⟨_, c, h3, h4⟩ := PR.bind_eq_ok h2
        cases h4
        exact i2 _ _ _ _ h1
      split at h
      · obtain ⟨x, a, h1, h2⟩ := PR.bind_eq_ok h
        cases h2
        exact ok_mk _ _ (by simp [i64R]) (by simp [i64R]) u0 f0L (okE1 (i1 _ _ _ h1))
      · obtain ⟨t, a, h1, h2⟩ := PR.bind_eq_ok h
        have ht := (take_sz hT h1).2.1
        split at h2
        · obtain ⟨x, c, h3, h4⟩ := PR.bind_eq_ok h2
          obtain ⟨_, d, h5, h6⟩ := PR.bind_eq_ok h4
          cases h6
          exact ok_mk _ _ (by simp [i64R]) (by simp [i64R]) u0 ht (okE1 (i2 _ _ _ _ h3))
        split at h2
        · obtain ⟨x, c, h3, h4⟩ := PR.bind_eq_ok h2
          cases h4
          exact ok_mk _ _ (by simp [i64R]) (by simp [i64R]) u0 ht (i4 _ _ _ h3)
        · cases h2
          exact ok_mk _ _ (by simp [i64R]) (by simp [i64R]) u0 ht okE0
    · rw [exprI] at h
      obtain ⟨x, a, h1, h2⟩ := PR.bind_eq_ok h
      exact i3 _ _ _ _ _ (i1 _ _ _ h1) h2
    · rw [loopI] at h
      split at h
      · cases h; exact h0
      · obtain ⟨x, a, h1, h2⟩ := PR.bind_eq_ok h
        exact i3 _ _ _ _ _ (join_ok _ h0 (i2 _ _ _ _ h1)) h2
    · rw [argsI] at h
      split at h
      · cases h; exact okE0
      · obtain ⟨x, a, h1, h2⟩ := PR.bind_eq_ok h
        have := g2 _ _ _ _ h1
        exact i5 _ _ _ _ (okE1 (i2 _ _ _ _ h1)) (by simp; omega) h2
    · rw [arglI] at h
      split at h
      · obtain ⟨x, a, h1, h2⟩ := PR.bind_eq_ok h
        have := g2 _ _ _ _ h1
        exact i5 _ _ _ _ (okE_snoc (by omega) ha (i2 _ _ _ _ h1)) (by simp only [List.length_append, List.length_singleton]; omega) h2
      · obtain ⟨_, a, h1, h2⟩ := PR.bind_eq_ok h
        cases h2; exact ha
theorem exprP_ok (hT : Sz T) {lo n m : Nat} {e : Ex} (h : exprP T lo n = .ok e m) : e.ok := (oks hT _).2.1 _ _ _ _ h
theorem argsP_ok (hT : Sz T) {n m : Nat} {l : List Ex} (h : argsP T n = .ok l m) : okE l := (oks hT _).2.2.2.1 _ _ _ h
theorem round_ok (hT : Sz T) {n m : Nat} {l : List Ex} (h : roundP T n = .ok l m) : okE l := by
  unfold roundP at h
  obtain ⟨_, a, h1, h2⟩ := PR.bind_eq_ok h
  obtain ⟨e, c, h3, h4⟩ := PR.bind_eq_ok h2
  obtain ⟨_, d, h5, h6⟩ := PR.bind_eq_ok h4
  cases h6
  exact okE1 (exprP_ok hT h3)
theorem okS0 : okS [] := ⟨f0L, fun e h => by cases h⟩
theorem okS_snoc {l : List Sm} {e : Sm} (hl : l.length ≤ 1000000) (h : okS l) (he : e.ok) : okS (l ++ [e]) := ⟨by unfold fitL; simp only [List.length_append, List.length_singleton]; omega, fun x hx => by
  rcases List.mem_append.1 hx with hx | hx
  · exact h.all x hx
  · rw [List.mem_singleton] at hx; rw [hx]; exact he⟩
theorem sm_mk (k : Int) (hk : i64R k) {s : Str} (hs : fitL s) {l : List Ex} (hl : okE l) {t u : List Sm} (ht : okS t) (hu : okS u) : (Sm.mk k s l t u).ok := .mk _ _ _ _ _ hk hs hl ht.fit ht.all hu.fit hu.all
theorem named_ok (hT : Sz T) {n m : Nat} {s : Sm} (h : namedP T n = .ok s m) : s.ok := by
  unfold namedP at h
  obtain ⟨t, a, h1, h2⟩ := PR.bind_eq_ok h
  obtain ⟨x, c, h3, h4⟩ := PR.bind_eq_ok h2
  obtain ⟨_, d, h5, h6⟩ := PR.bind_eq_ok h4
  have ht := (take_sz hT h1).2.1
  cases h6
  split at h3
  · obtain ⟨y, b, g1, g2⟩ := PR.bind_eq_ok h3
    cases g2; exact sm_mk _ (by simp [i64R]) ht (okE1 (exprP_ok hT g1)) okS0 okS0
  split at h3
  · obtain ⟨y, b, g1, g2⟩ := PR.bind_eq_ok h3
    obtain ⟨_, b2, g3, g4⟩ := PR.bind_eq_ok g2
    obtain ⟨_, b3, g5, g6⟩ := PR.bind_eq_ok g4
    obtain ⟨z, b4, g7, g8⟩ := PR.bind_eq_ok g6
    cases g8; exact sm_mk _ (by simp [i64R]) ht (okE2 (exprP_ok hT g1) (exprP_ok hT g7)) okS0 okS0
  split at h3
  · obtain ⟨y, b, g1, g2⟩ := PR.bind_eq_ok h3
    cases g2; exact sm_mk _ (by simp [i64R]) ht (argsP_ok hT g1) okS0 okS0
  · cases h3
theorem oksS (hT : Sz T) (f : Nat) : (∀ n e m, stmtI T f n = .ok e m → e.ok) ∧ (∀ n l m, bodyI T f n = .ok l m → okS l) ∧ (∀ acc n l m, okS acc → acc.length ≤ n → stmtsI T f acc n = .ok l m → okS l) := by
  induction f with
  | zero => exact ⟨fun _ _ _ h => by simp [stmtI] at h, fun _ _ _ h => by simp [bodyI] at h, fun _ _ _ _ _ _ h => by simp [stmtsI] at h⟩
  | succ f ih =>
    obtain ⟨i1, i2, i3⟩ := ih
    obtain ⟨g1, g2, g3⟩ := farS (T := T) f
    have hlen := hT.len
    refine ⟨fun n e m h => ?_, fun n l m h => ?_, fun acc n l m ha hal h => ?_⟩
    · rw [stmtI] at h
      split at h
      · obtain ⟨l, a, h1, h2⟩ := PR.bind_eq_ok h
        obtain ⟨_, c, h3, h4⟩ := PR.bind_eq_ok h2
        cases h4; exact sm_mk _ (by simp [i64R]) f0L (round_ok hT h1) okS0 okS0
      split at h
      · split at h
        · cases h; exact sm_mk _ (by simp [i64R]) f0L okE0 okS0 okS0
        · obtain ⟨l, a, h1, h2⟩ := PR.bind_eq_ok h
          obtain ⟨_, c, h3, h4⟩ := PR.bind_eq_ok h2
          cases h4; exact sm_mk _ (by simp [i64R]) f0L (okE1 (exprP_ok hT h1)) okS0 okS0
      split at h
      · obtain ⟨l, a, h1, h2⟩ := PR.bind_eq_ok h
        obtain ⟨t, c, h3, h4⟩ := PR.bind_eq_ok h2
        split at h4
        · obtain ⟨u, d, h5, h6⟩ := PR.bind_eq_ok h4
          cases h6; exact sm_mk _ (by simp [i64R]) f0L (round_ok hT h1) (i2 _ _ _ h3) (i2 _ _ _ h5)
        · cases h4; exact sm_mk _ (by simp [i64R]) f0L (round_ok hT h1) (i2 _ _ _ h3) okS0
      split at h
      · obtain ⟨l, a, h1, h2⟩ := PR.bind_eq_ok h
        obtain ⟨t, c, h3, h4⟩ := PR.bind_eq_ok h2
        cases h4; exact sm_mk _ (by simp [i64R]) f0L (round_ok hT h1) (i2 _ _ _ h3) okS0
      · exact named_ok hT h
    · rw [bodyI] at h
      obtain ⟨_, a, h1, h2⟩ := PR.bind_eq_ok h
      exact i3 _ _ _ _ okS0 (Nat.zero_le _) h2
    · rw [stmtsI] at h
      split at h
      · cases h; exact ha
      · obtain ⟨s, a, h1, h2⟩ := PR.bind_eq_ok h
        have := g1 _ _ _ h1
        exact i3 _ _ _ _ (okS_snoc (by omega) ha (i1 _ _ _ h1)) (by simp only [List.length_append, List.length_singleton]; omega) h2
theorem stmtsP_ok (hT : Sz T) {n m : Nat} {l : List Sm} (h : stmtsP T [] n = .ok l m) : okS l := (oksS hT _).2.2 _ _ _ _ okS0 (Nat.zero_le _) h
/-! ### names -/
def smallN (l : List Str) : Prop := ∀ s ∈ l, s.length ≤ 1000000
theorem okN_of {l : List Str} (hl : l.length ≤ 2000000) (h : smallN l) : okN l := ⟨by unfold fitL; omega, fun s hs => by have := h s hs; unfold fitL; omega⟩
theorem nm_ok (hT : Sz T) (f : Nat) : ∀ acc n l m, smallN acc → acc.length ≤ n → n ≤ T.length → nmI T f acc n = .ok l m → smallN l ∧ l.length ≤ m := by
  induction f with
  | zero => intro _ _ _ _ _ _ _ h; simp [nmI] at h
  | succ f ih =>
    intro acc n l m ha hal hn h
    rw [nmI] at h
    split at h
    · obtain ⟨t, a, h1, h2⟩ := PR.bind_eq_ok h
      have := take_ok h1
      have ht := (take_sz hT h1).2.2
      refine ih _ _ _ _ (fun s hs => ?_) (by simp only [List.length_append, List.length_singleton]; omega) (by omega) h2
      rcases List.mem_append.1 hs with hs | hs
      · exact ha s hs
      · rw [List.mem_singleton] at hs; rw [hs]; exact ht
    · cases h; exact ⟨ha, hal⟩
theorem namesP_ok (hT : Sz T) {n m : Nat} {l : List Str} (h : namesP T n = .ok l m) : smallN l ∧ l.length + n ≤ m := by
  obtain ⟨t, a, h1, h2⟩ := PR.bind_eq_ok h
  have := take_ok h1
  have ht := (take_sz hT h1).2.2
  have hs := (nm_ok hT _ _ _ _ _ (fun s hs => by rw [List.mem_singleton] at hs; rw [hs]; exact ht) (by simp; omega) (by omega) h2).1
  have key : ∀ (f : Nat) acc n l m, nmI T f acc n = .ok l m → l.length + n ≤ acc.length + m := by
    intro f
    induction f with
    | zero => intro _ _ _ _ h; simp [nmI] at h
    | succ f ih =>
      intro acc n l m h
      rw [nmI] at h
      split at h
      · obtain ⟨s, a, h1, h2⟩ := PR.bind_eq_ok h
        have := take_ok h1
        have := ih _ _ _ _ h2
        simp only [List.length_append, List.length_cons, List.length_nil] at this
        omega
      · cases h; omega
  have := key _ _ _ _ _ h2
  simp only [List.length_singleton] at this
  exact ⟨hs, by omega⟩
theorem loc_ok (hT : Sz T) (f : Nat) : ∀ acc n l m, smallN acc → acc.length ≤ n → locI T f acc n = .ok l m → smallN l ∧ (n ≤ T.length → l.length ≤ T.length) := by
  induction f with
  | zero => intro _ _ _ _ _ _ h; simp [locI] at h
  | succ f ih =>
    intro acc n l m ha hal h
    rw [locI] at h
    split at h
    · obtain ⟨s, a, h1, h2⟩ := PR.bind_eq_ok h
      obtain ⟨_, c, h3, h4⟩ := PR.bind_eq_ok h2
      have hs := namesP_ok hT h1
      have := must_ok h3 (by decide)
      have hi := ih _ _ _ _ (fun x hx => by
        rcases List.mem_append.1 hx with hx | hx
        · exact ha x hx
        · exact hs.1 x hx) (by simp only [List.length_append]; omega) h4
      exact ⟨hi.1, fun _ => hi.2 (by omega)⟩
    · cases h; exact ⟨ha, fun hn => by omega⟩
theorem funP_ok (hT : Sz T) {n m : Nat} {g : Fu} (h : funP T n = .ok g m) : g.ok ∧ g.params.length ≤ 1000000 ∧ g.locs.length ≤ 1000000 := by
  unfold funP at h
  obtain ⟨_, a1, h1, h⟩ := PR.bind_eq_ok h
  obtain ⟨t, a2, h2, h⟩ := PR.bind_eq_ok h
  obtain ⟨_, a3, h3, h⟩ := PR.bind_eq_ok h
  obtain ⟨ps, a4, h4, h⟩ := PR.bind_eq_ok h
  obtain ⟨_, a5, h5, h⟩ := PR.bind_eq_ok h
  obtain ⟨_, a6, h6, h⟩ := PR.bind_eq_ok h
  obtain ⟨ls, a7, h7, h⟩ := PR.bind_eq_ok h
  obtain ⟨b, a8, h8, h⟩ := PR.bind_eq_ok h
  cases h
  have hlen := hT.len
  have ht := take_sz hT h2
  have := must_ok h3 (by decide)
  have hps : smallN ps ∧ ps.length ≤ T.length := by
    split at h4
    · have hq := namesP_ok hT h4
      have := namesP_far h4
      exact ⟨hq.1, by have := hq.2; omega⟩
    · cases h4; exact ⟨(fun s h => by cases h), Nat.zero_le _⟩
  have h6' := must_ok h6 (by decide)
  have hls := loc_ok hT _ _ _ _ _ (fun s h => by cases h) (Nat.zero_le _) h7
  have hll := hls.2 (by omega)
  exact ⟨⟨ht.2.1, okN_of (l := ps) (by omega) hps.1, okN_of (l := ls) (by omega) hls.1, stmtsP_ok hT h8⟩, by simp only; omega, by simp only; omega⟩
def smallA (l : List Ar) : Prop := ∀ a ∈ l, a.name.length ≤ 1000000 ∧ u32R a.size
theorem head_ok (hT : Sz T) (f : Nat) : ∀ vs as' n l m, smallN vs → smallA as' → vs.length ≤ n → as'.length ≤ n → n ≤ T.length → headI T f vs as' n = .ok l m → smallN l.1 ∧ smallA l.2 ∧ l.1.length ≤ T.length ∧ l.2.length ≤ T.length := by
  induction f with
  | zero => intro _ _ _ _ _ _ _ _ _ _ h; simp [headI] at h
  | succ f ih =>
    intro vs as' n l m hv ha hvl hal hn h
    rw [headI] at h
    split at h
    · obtain ⟨s, a, h1, h2⟩ := PR.bind_eq_ok h
      obtain ⟨_, c, h3, h4⟩ := PR.bind_eq_ok h2
      have hs := namesP_ok hT h1
      have := must_ok h3 (by decide)
      exact ih _ _ _ _ _ (fun x hx => by
        rcases List.mem_append.1 hx with hx | hx
        · exact hv x hx
        · exact hs.1 x hx) ha (by simp only [List.length_append]; omega) (by omega) (by omega) h4
    split at h
    · obtain ⟨t, a1, h1, h⟩ := PR.bind_eq_ok h
      obtain ⟨_, a2, h2, h⟩ := PR.bind_eq_ok h
      obtain ⟨u, a3, h3, h⟩ := PR.bind_eq_ok h
      obtain ⟨_, a4, h4, h⟩ := PR.bind_eq_ok h
      obtain ⟨_, a5, h5, h⟩ := PR.bind_eq_ok h
      have := take_ok h1
      have := must_ok h2 (by decide)
      have := take_ok h3
      have := must_ok h4 (by decide)
      have := must_ok h5 (by decide)
      have s1 := take_sz hT h1
      have s2 := take_sz hT h3
      exact ih _ _ _ _ _ hv (fun x hx => by
        rcases List.mem_append.1 hx with hx | hx
        · exact ha x hx
        · rw [List.mem_singleton] at hx; rw [hx]; exact ⟨s1.2.2, s2.1⟩) (by omega) (by simp only [List.length_append, List.length_singleton]; omega) (by omega) h
    · cases h; exact ⟨hv, ha, by simp only; omega, by simp only; omega⟩
theorem funs_ok (hT : Sz T) (f : Nat) : ∀ acc n l m, (∀ g ∈ acc, g.ok ∧ g.params.length ≤ 1000000 ∧ g.locs.length ≤ 1000000) → acc.length ≤ n → n ≤ T.length → funsI T f acc n = .ok l m → (∀ g ∈ l, g.ok ∧ g.params.length ≤ 1000000 ∧ g.locs.length ≤ 1000000) ∧ l.length ≤ T.length := by
  induction f with
  | zero => intro _ _ _ _ _ _ _ h; simp [funsI] at h
  | succ f ih =>
    intro acc n l m ha hal hn h
    rw [funsI] at h
    split at h
    · obtain ⟨s, a, h1, h2⟩ := PR.bind_eq_ok h
      have hs := funP_ok hT h1
      have := funP_far h1
      exact ih _ _ _ _ (fun x hx => by
        rcases List.mem_append.1 hx with hx | hx
        · exact ha x hx
        · rw [List.mem_singleton] at hx; rw [hx]; exact hs) (by simp only [List.length_append, List.length_singleton]; omega) (by omega) h2
    · cases h; exact ⟨ha, by omega⟩
theorem progP_ok (hT : Sz T) {n m : Nat} {p : Pg} (hn : n ≤ T.length) (h : progP T n = .ok p m) : p.ok ∧ (∀ g ∈ p.funs, g.params.length ≤ 1000000 ∧ g.locs.length ≤ 1000000) := by
  unfold progP at h
  obtain ⟨va, a1, h1, h⟩ := PR.bind_eq_ok h
  obtain ⟨g, a2, h2, h⟩ := PR.bind_eq_ok h
  obtain ⟨fs, a3, h3, h⟩ := PR.bind_eq_ok h
  cases h
  have hlen := hT.len
  have hh := head_ok hT _ _ _ _ _ _ (fun s h => by cases h) (fun s h => by cases h) (Nat.zero_le _) (Nat.zero_le _) hn h1
  have hf := funP_ok hT h2
  have hff := funP_far h2
  have hfs := funs_ok hT _ _ _ _ _ (fun x hx => by rw [List.mem_singleton] at hx; rw [hx]; exact hf) (by simp; omega) (by omega) h3
  refine ⟨⟨okN_of (by show va.1.length ≤ _; omega) hh.1, by show va.2.length ≤ _; omega, fun a ha => ?_, by show fs.length ≤ _; omega, fun x hx => (hfs.1 x hx).1⟩, fun x hx => (hfs.1 x hx).2⟩
  have := hh.2.1 a ha
  have h2 := this.2
  unfold u32R at h2
  exact ⟨by unfold fitL; omega, by unfold i64R; omega⟩
/-! ### tokens of a text -/
theorem first_num (s : List UInt8) : u32R (firstS s).1.num := by
  cases s with
  | nil => simp [firstS, tok0, u32R]
  | cons c r =>
    simp only [firstS]
    split
    · simp only [numTok]
      split
      · rename_i m hm
        have := numS_bound _ 0 m (by omega) (by omega) (all_takeWhile _ _) hm
        exact ⟨by simp only; omega, by simp only; omega⟩
      · simp [tok0, u32R]
    · split
      · rw [byteS_cons]
        split
        · rename_i c1 _ _ _
          split
          · have := UInt8.toNat_lt c1
            exact ⟨by simp only; omega, by simp only; omega⟩
          · simp [tok0, u32R]
        · simp [tok0, u32R]
      · split
        · simp only [nameS]
          split
          · simp [tok0, u32R]
          · split <;> simp [u32R]
        · split <;> simp [tok0, u32R]
theorem lexH_sz (N : Nat) : ∀ (s : Str) (k i : Nat) (l : List Tok), s.length ≤ N → lexH s k i = .ok l → l.length ≤ s.length ∧ ∀ t ∈ l, u32R t.num ∧ t.text.length ≤ N := by
  intro s
  induction s with
  | nil => intro k i l _ h; cases k <;> simp [lexH] at h <;> subst h <;> simp
  | cons c r ih =>
    intro k i l hN h
    have hr : r.length ≤ N := by simp only [List.length_cons] at hN; omega
    cases k with
    | succ k =>
      rw [lexH] at h
      have := ih k (i + 1) l hr h
      exact ⟨by simp only [List.length_cons]; omega, this.2⟩
    | zero =>
      rw [lexH] at h
      split at h
      · have := ih 0 (i + 1) l hr h
        exact ⟨by simp only [List.length_cons]; omega, this.2⟩
      split at h
      · have := ih _ (i + 1) l hr h
        exact ⟨by simp only [List.length_cons]; omega, this.2⟩
      split at h
      · cases hl : lexH r ((firstS (c :: r)).1.text.length - 1) (i + 1) with
        | error y => rw [hl] at h; cases h
        | ok l' =>
          rw [hl] at h
          cases h
          have := ih _ (i + 1) l' hr hl
          refine ⟨by simp only [List.length_cons]; omega, fun t ht => ?_⟩
          rcases List.mem_cons.1 ht with rfl | ht
          · have h1 := first_num (c :: r)
            have h2 := first_len (c :: r)
            exact ⟨h1, by simp only; omega⟩
          · exact this.2 t ht
      · cases h
theorem lexS_sz {s : Str} {T : List Tok} (h : lexS s = .ok T) : Sz T := by
  unfold lexS at h
  split at h
  · cases h
  · have := lexH_sz 20000 s 0 0 T (by omega) h
    exact ⟨by omega, fun t ht => ⟨(this.2 t ht).1, by have := (this.2 t ht).2; omega⟩⟩
end Go.Proofs.YtlpeikljipknoaaDoor

namespace Go.Proofs.YtlpeikljipknoaaDoor
open Go.Al
variable {T : List Tok}
theorem bind_assoc {α β γ : Type} (x : PR α) (f : α → Nat → PR β) (g : β → Nat → PR γ) : (x.bind f).bind g = x.bind fun a m => (f a m).bind g := by cases x <;> rfl
theorem loop_up (lo : Nat) (hl : 1 ≤ lo) (k : Nat) : ∀ n e, n ≤ T.length → T.length - n ≤ k → loopP T lo e n = (loopP T (lo + 1) e n).bind fun e' m => loopP T lo e' m := by
  induction k using Nat.strongRecOn with
  | _ k ih =>
    intro n e hn hk
    rw [loopP_eq T (lo + 1) e n (by omega)]
    by_cases h : (sgI (peekI T n)).2.2 < lo + 1
    · rw [if_pos h]; rfl
    · have hlt := sg_lt h (by omega)
      rw [loopP_eq T lo e n hl, if_neg (by omega), if_neg h, bind_assoc]
      refine PR.bind_congr rfl fun x m hx => ?_
      have := exprP_far hx
      exact ih (T.length - m) (by omega) m _ this.2 (Nat.le_refl _)
theorem exprP_up (lo n : Nat) (hl : 1 ≤ lo) : exprP T lo n = (exprP T (lo + 1) n).bind fun e m => loopP T lo e m := by
  rw [exprP_eq T lo n hl, exprP_eq T (lo + 1) n (by omega), bind_assoc]
  refine PR.bind_congr rfl fun x m hx => ?_
  exact loop_up lo hl _ m x (atomP_far hx).2 (Nat.le_refl _)
theorem exprP_top (n : Nat) : exprP T 10 n = atomP T n := by
  rw [exprP_eq T 10 n (by decide)]
  cases h : atomP T n with
  | bad m => rfl
  | ok e m =>
    show loopP T 10 e m = _
    rw [loopP_eq T 10 e m (by decide), if_pos (by have := sg_le (peekI T m); omega)]
theorem loop_stop (lo : Nat) (hl : 1 ≤ lo) (k : Nat) : ∀ n e e' m, n ≤ T.length → T.length - n ≤ k → loopP T lo e n = .ok e' m → (sgI (peekI T m)).2.2 < lo := by
  induction k using Nat.strongRecOn with
  | _ k ih =>
    intro n e e' m hn hk h
    rw [loopP_eq T lo e n hl] at h
    by_cases h1 : (sgI (peekI T n)).2.2 < lo
    · rw [if_pos h1] at h; cases h; exact h1
    · have hlt := sg_lt h1 hl
      rw [if_neg h1] at h
      obtain ⟨x, a, h2, h3⟩ := PR.bind_eq_ok h
      have := exprP_far h2
      exact ih (T.length - a) (by omega) a _ _ _ this.2 (Nat.le_refl _) h3
theorem expr_stop {lo n m : Nat} {e : Ex} (hl : 1 ≤ lo) (h : exprP T lo n = .ok e m) : (sgI (peekI T m)).2.2 < lo := by
  rw [exprP_eq T lo n hl] at h
  obtain ⟨x, a, h2, h3⟩ := PR.bind_eq_ok h
  exact loop_stop lo hl _ a x e m (atomP_far h2).2 (Nat.le_refl _) h3
theorem atomP_eq' (n : Nat) : atomP T n =
    if kindI T n = 2 then (takeI T 2 n).bind fun t m => .ok (.mk 1 0 t.num [] []) m
    else if peekI T n = [103, 101, 116] then (mustI T [40] (n + 1)).bind fun _ m => (mustI T [41] m).bind fun _ m => .ok (.mk 5 0 0 [] []) m
    else if peekI T n = [33] then (atomP T (n + 1)).bind fun e m => .ok (.mk 7 0 0 [] [e]) m
    else if peekI T n = [40] then (exprP T 1 (n + 1)).bind fun e m => (mustI T [41] m).bind fun _ m => .ok e m
    else (takeI T 1 n).bind fun t m =>
      if peekI T m = [91] then (exprP T 1 (m + 1)).bind fun e m => (mustI T [93] m).bind fun _ m => .ok (.mk 3 0 0 t.text [e]) m
      else if peekI T m = [40] then (argsP T (m + 1)).bind fun l m => .ok (.mk 4 0 0 t.text l) m
      else .ok (.mk 2 0 0 t.text []) m := by
  rw [atomP_eq]
  by_cases h1 : peekI T n = [33]
  · rw [h1]; simp
  · simp only [if_neg h1]
end Go.Proofs.YtlpeikljipknoaaDoor
