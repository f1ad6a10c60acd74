/- Chapter 15: the grammar of expressions, in plain Lean. Chapter 15: the grammar of statements, functions and programs, in plain Lean. Chapter 15: the lexer, plain laws: what the first token is, how a text is read token by token. Chapter 15: tokens' places play no part in what is read. Chapter 15: the tokens of a printed program: pieces. -/
import Derived.Test.YtgcncdjnipfolaaDoorLxp
import Derived.Test.YtgcncdjnipfolaaDoorSy1
import Derived.Test.YtgcncdjnipfolaaDoorSy2
import Derived.Test.YtgcncdjnipfolaaDoorTp
set_option linter.unusedSimpArgs false
set_option linter.unusedVariables false
set_option maxRecDepth 10000
namespace Go.Proofs.YtgcncdjnipfolaaDoor
open Go.Al
inductive PR (α : Type) where
  | ok (a : α) (n : Nat)
  | bad (n : Nat)
def PR.bind {α β : Type} : PR α → (α → Nat → PR β) → PR β
  | .ok a n, f => f a n
  | .bad n, _ => .bad n
@[simp] theorem PR.bind_ok {α β : Type} (a : α) (n : Nat) (f : α → Nat → PR β) : (PR.ok a n).bind f = f a n := rfl
@[simp] theorem PR.bind_bad {α β : Type} (n : Nat) (f : α → Nat → PR β) : (PR.bad n : PR α).bind f = .bad n := rfl
theorem PR.bind_eq_ok {α β : Type} {x : PR α} {f : α → Nat → PR β} {b : β} {m : Nat} (h : x.bind f = .ok b m) : ∃ a n, x = .ok a n ∧ f a n = .ok b m := by
  cases x with
  | ok a n => exact ⟨a, n, rfl, h⟩
  | bad n => cases h
section
variable (T : List Tok)
def peekI (n : Nat) : Str := match T[n]? with
  | some t => if t.kind = 3 ∨ t.kind = 4 then t.text else []
  | none => []
def kindI (n : Nat) : Int := match T[n]? with
  | some t => t.kind
  | none => 0
def mustI (s : Str) (n : Nat) : PR Unit := if peekI T n = s then .ok () (n + 1) else .bad n
def takeI (k : Int) (n : Nat) : PR Tok := match T[n]? with
  | some t => if t.kind = k then .ok t (n + 1) else .bad n
  | none => .bad n
def selI : List (Str × Int × Int × Nat) → Str → Int × Int × Nat
  | [], _ => (0, 0, 0)
  | (w, r) :: l, s => if s = w then r else selI l s
def sgL : List (Str × Int × Int × Nat) := [([124, 124], 9, 0, 1), ([38, 38], 8, 0, 2), ([61, 61], 6, 15, 3), ([60], 6, 14, 4), ([124], 6, 10, 5), ([94], 6, 11, 5), ([38], 6, 9, 6), ([60, 60], 6, 12, 7), ([62, 62], 6, 13, 7),
  ([43], 6, 4, 8), ([45], 6, 5, 8), ([42], 6, 6, 9), ([47], 6, 7, 9), ([37], 6, 8, 9)]
def sgI (s : Str) : Int × Int × Nat := selI sgL s
def joinI (s : Str) (a b : Ex) : Ex := .mk (sgI s).1 (sgI s).2.1 0 [] [a, b]
mutual
def atomI : Nat → Nat → PR Ex
  | 0, n => .bad n
  | f + 1, n =>
    if kindI T n = 2 then (takeI T 2 n).bind fun t m => .ok (.mk 1 0 t.num [] []) m
    else if peekI T n = [103, 101, 116] then (mustI T [40] (n + 1)).bind fun _ m => (mustI T [41] m).bind fun _ m => .ok (.mk 5 0 0 [] []) m
    else if peekI T n = [40] then (exprI f 1 (n + 1)).bind fun e m => (mustI T [41] m).bind fun _ m => .ok e m
    else if peekI T n = [33] then (atomI f (n + 1)).bind fun e m => .ok (.mk 7 0 0 [] [e]) m
    else (takeI T 1 n).bind fun t m =>
      if peekI T m = [91] then (exprI f 1 (m + 1)).bind fun e m => (mustI T [93] m).bind fun _ m => .ok (.mk 3 0 0 t.text [e]) m
      else if peekI T m = [40] then (argsI f (m + 1)).bind fun l m => .ok (.mk 4 0 0 t.text l) m
      else .ok (.mk 2 0 0 t.text []) m
def exprI : Nat → Nat → Nat → PR Ex
  | 0, _, n => .bad n
  | f + 1, lo, n => (atomI f n).bind fun e m => loopI f lo e m
def loopI : Nat → Nat → Ex → Nat → PR Ex
  | 0, _, _, n => .bad n
  | f + 1, lo, e, n => if (sgI (peekI T n)).2.2 < lo then .ok e n
    else (exprI f ((sgI (peekI T n)).2.2 + 1) (n + 1)).bind fun e2 m => loopI f lo (joinI (peekI T n) e e2) m
def argsI : Nat → Nat → PR (List Ex)
  | 0, n => .bad n
  | f + 1, n => if peekI T n = [41] then .ok [] (n + 1) else (exprI f 1 n).bind fun e m => arglI f [e] m
def arglI : Nat → List Ex → Nat → PR (List Ex)
  | 0, _, n => .bad n
  | f + 1, acc, n => if peekI T n = [44] then (exprI f 1 (n + 1)).bind fun e m => arglI f (acc ++ [e]) m
    else (mustI T [41] n).bind fun _ m => .ok acc m
end
end
variable {T : List Tok}
theorem peek_lt {n : Nat} {s : Str} (h : peekI T n = s) (hs : s ≠ []) : n < T.length := by
  by_cases hn : n < T.length
  · exact hn
  · rw [peekI, List.getElem?_eq_none (by omega)] at h
    exact absurd h.symm hs
theorem kind_lt {n : Nat} {k : Int} (h : kindI T n = k) (hk : k ≠ 0) : n < T.length := by
  by_cases hn : n < T.length
  · exact hn
  · rw [kindI, List.getElem?_eq_none (by omega)] at h
    exact absurd h.symm hk
theorem sg_nil : sgI [] = (0, 0, 0) := by decide
theorem sel_le (k : Nat) (s : Str) : ∀ l : List (Str × Int × Int × Nat), (∀ x ∈ l, x.2.2.2 ≤ k) → (selI l s).2.2 ≤ k
  | [], _ => Nat.zero_le _
  | x :: l, h => by
    obtain ⟨w, r⟩ := x
    rw [selI]
    split
    · exact h _ (List.mem_cons_self)
    · exact sel_le k s l fun y hy => h y (List.mem_cons_of_mem _ hy)
theorem sg_le (s : Str) : (sgI s).2.2 ≤ 9 := sel_le 9 s sgL (by decide)
theorem sg_lt {n lo : Nat} (h : ¬ (sgI (peekI T n)).2.2 < lo) (hl : 1 ≤ lo) : n < T.length := by
  refine peek_lt rfl fun e => h ?_
  rw [e, sg_nil]; exact hl
theorem must_ok {s : Str} {n m : Nat} {u : Unit} (h : mustI T s n = .ok u m) (hs : s ≠ []) : m = n + 1 ∧ n < T.length ∧ peekI T n = s := by
  unfold mustI at h
  split at h
  · rename_i e; cases h; exact ⟨rfl, peek_lt e hs, e⟩
  · cases h
theorem take_ok {k : Int} {n m : Nat} {t : Tok} (h : takeI T k n = .ok t m) : m = n + 1 ∧ n < T.length ∧ T[n]? = some t ∧ t.kind = k := by
  unfold takeI at h
  split at h
  · rename_i t' e
    split at h
    · rename_i hk; cases h; exact ⟨rfl, (List.getElem?_eq_some_iff.1 e).1, e, hk⟩
    · cases h
  · cases h
theorem far (f : Nat) : (∀ n e m, atomI T f n = .ok e m → n < m ∧ m ≤ T.length) ∧ (∀ lo n e m, exprI T f lo n = .ok e m → n < m ∧ m ≤ T.length) ∧
    (∀ lo e0 n e m, n ≤ T.length → loopI T f lo e0 n = .ok e m → n ≤ m ∧ m ≤ T.length) ∧ (∀ n l m, argsI T f n = .ok l m → n < m ∧ m ≤ T.length) ∧
    (∀ acc n l m, arglI T f acc n = .ok l m → n < m ∧ m ≤ T.length) := by
  induction f with
  | zero => exact ⟨fun _ _ _ h => by simp [atomI] at h, fun _ _ _ _ h => by simp [exprI] at h, fun _ _ _ _ _ _ h => by simp [loopI] at h, fun _ _ _ h => by simp [argsI] at h, fun _ _ _ _ h => by simp [arglI] at h⟩
  | succ f ih =>
    obtain ⟨i1, i2, i3, i4, i5⟩ := ih
    refine ⟨fun n e m h => ?_, fun lo n e m h => ?_, fun lo e0 n e m hn h => ?_, fun n l m h => ?_, fun acc n l m h => ?_⟩
    · rw [atomI] at h
      split at h
      · obtain ⟨t, a, h1, h2⟩ := PR.bind_eq_ok h
        have := take_ok h1
        cases h2; omega
      split at h
      · obtain ⟨_, a, h1, h2⟩ := PR.bind_eq_ok h
        obtain ⟨_, c, h3, h4⟩ := PR.bind_eq_ok h2
        have := must_ok h1 (by decide)
        have := must_ok h3 (by decide)
        cases h4; omega
      split at h
      · obtain ⟨x, a, h1, h2⟩ := PR.bind_eq_ok h
        obtain ⟨_, c, h3, h4⟩ := PR.bind_eq_ok h2
        have := i2 _ _ _ _ h1
        have := must_ok h3 (by decide)
        cases h4; omega
      split at h
      · obtain ⟨x, a, h1, h2⟩ := PR.bind_eq_ok h
        have := i1 _ _ _ h1
        cases h2; omega
      · obtain ⟨t, a, h1, h2⟩ := PR.bind_eq_ok h
        have := take_ok h1
        split at h2
        · obtain ⟨x, c, h3, h4⟩ := PR.bind_eq_ok h2
          obtain ⟨_, d, h5, h6⟩ := PR.bind_eq_ok h4
          have := i2 _ _ _ _ h3
          have := must_ok h5 (by decide)
          cases h6; omega
        split at h2
        · obtain ⟨x, c, h3, h4⟩ := PR.bind_eq_ok h2
          have := i4 _ _ _ h3
          cases h4; omega
        · cases h2; omega
    · rw [exprI] at h
      obtain ⟨x, a, h1, h2⟩ := PR.bind_eq_ok h
      have := i1 _ _ _ h1
      have := i3 _ _ _ _ _ this.2 h2
      omega
    · rw [loopI] at h
      split at h
      · cases h; omega
      · obtain ⟨x, a, h1, h2⟩ := PR.bind_eq_ok h
        have := i2 _ _ _ _ h1
        have := i3 _ _ _ _ _ this.2 h2
        omega
    · rw [argsI] at h
      split at h
      · rename_i hp
        have := peek_lt hp (by decide)
        cases h; omega
      · obtain ⟨x, a, h1, h2⟩ := PR.bind_eq_ok h
        have := i2 _ _ _ _ h1
        have := i5 _ _ _ _ h2
        omega
    · rw [arglI] at h
      split at h
      · obtain ⟨x, a, h1, h2⟩ := PR.bind_eq_ok h
        have := i2 _ _ _ _ h1
        have := i5 _ _ _ _ h2
        omega
      · obtain ⟨_, a, h1, h2⟩ := PR.bind_eq_ok h
        have := must_ok h1 (by decide)
        cases h2; omega
theorem PR.bind_congr {α β : Type} {x y : PR α} {f g : α → Nat → PR β} (h : x = y) (hf : ∀ a n, x = .ok a n → f a n = g a n) : x.bind f = y.bind g := by
  subst h
  cases x with
  | ok a n => exact hf a n rfl
  | bad n => rfl
theorem more (f : Nat) : (∀ n, 4 * (T.length - n) + 1 ≤ f → atomI T f n = atomI T (f + 1) n) ∧ (∀ lo n, 1 ≤ lo → 4 * (T.length - n) + 2 ≤ f → exprI T f lo n = exprI T (f + 1) lo n) ∧
    (∀ lo e0 n, 1 ≤ lo → n ≤ T.length → 4 * (T.length - n) + 1 ≤ f → loopI T f lo e0 n = loopI T (f + 1) lo e0 n) ∧ (∀ n, 4 * (T.length - n) + 3 ≤ f → argsI T f n = argsI T (f + 1) n) ∧
    (∀ acc n, 4 * (T.length - n) + 1 ≤ f → arglI T f acc n = arglI T (f + 1) acc n) := by
  induction f with
  | zero => exact ⟨fun _ h => by omega, fun _ _ _ h => by omega, fun _ _ _ _ _ h => by omega, fun _ h => by omega, fun _ _ h => by omega⟩
  | succ f ih =>
    obtain ⟨i1, i2, i3, i4, i5⟩ := ih
    obtain ⟨g1, g2, g3, g4, g5⟩ := far (T := T) f
    refine ⟨fun n hn => ?_, fun lo n hl hn => ?_, fun lo e0 n hl hnl hn => ?_, fun n hn => ?_, fun acc n hn => ?_⟩
    · rw [atomI, atomI]
      split
      · rfl
      split
      · rfl
      split
      · rename_i hp
        have := peek_lt hp (by decide)
        rw [i2 1 (n + 1) (by omega) (by omega)]
      split
      · rename_i hp
        have := peek_lt hp (by decide)
        rw [i1 (n + 1) (by omega)]
      · refine PR.bind_congr rfl fun t a h1 => ?_
        have := take_ok h1
        split
        · rename_i hp
          have := peek_lt hp (by decide)
          rw [i2 1 (a + 1) (by omega) (by omega)]
        split
        · rename_i hp
          have := peek_lt hp (by decide)
          rw [i4 (a + 1) (by omega)]
        · rfl
    · rw [exprI, exprI]
      refine PR.bind_congr (i1 n (by omega)) fun x a h1 => ?_
      have := g1 _ _ _ h1
      exact i3 lo x a hl (by omega) (by omega)
    · rw [loopI, loopI]
      split
      · rfl
      · rename_i hs
        have := sg_lt hs hl
        refine PR.bind_congr (i2 _ (n + 1) (by omega) (by omega)) fun x a h1 => ?_
        have := g2 _ _ _ _ h1
        exact i3 lo _ a hl (by omega) (by omega)
    · rw [argsI, argsI]
      split
      · rfl
      · refine PR.bind_congr (i2 1 n (by omega) (by omega)) fun x a h1 => ?_
        have := g2 _ _ _ _ h1
        exact i5 _ a (by omega)
    · rw [arglI, arglI]
      split
      · rename_i hp
        have := peek_lt hp (by decide)
        refine PR.bind_congr (i2 1 (n + 1) (by omega) (by omega)) fun x a h1 => ?_
        have := g2 _ _ _ _ h1
        exact i5 _ a (by omega)
      · rfl
variable (T)
def atomP (n : Nat) : PR Ex := atomI T (4 * T.length + 5) n
def exprP (lo n : Nat) : PR Ex := exprI T (4 * T.length + 5) lo n
def loopP (lo : Nat) (e : Ex) (n : Nat) : PR Ex := loopI T (4 * T.length + 5) lo e n
def argsP (n : Nat) : PR (List Ex) := argsI T (4 * T.length + 5) n
def arglP (acc : List Ex) (n : Nat) : PR (List Ex) := arglI T (4 * T.length + 5) acc n
theorem atomP_eq (n : Nat) : atomP T n =
    if kindI T n = 2 then (takeI T 2 n).bind fun t m => .ok (.mk 1 0 t.num [] []) m
    else if peekI T n = [103, 101, 116] then (mustI T [40] (n + 1)).bind fun _ m => (mustI T [41] m).bind fun _ m => .ok (.mk 5 0 0 [] []) m
    else if peekI T n = [40] then (exprP T 1 (n + 1)).bind fun e m => (mustI T [41] m).bind fun _ m => .ok e m
    else if peekI T n = [33] then (atomP T (n + 1)).bind fun e m => .ok (.mk 7 0 0 [] [e]) m
    else (takeI T 1 n).bind fun t m =>
      if peekI T m = [91] then (exprP T 1 (m + 1)).bind fun e m => (mustI T [93] m).bind fun _ m => .ok (.mk 3 0 0 t.text [e]) m
      else if peekI T m = [40] then (argsP T (m + 1)).bind fun l m => .ok (.mk 4 0 0 t.text l) m
      else .ok (.mk 2 0 0 t.text []) m := by
  obtain ⟨i1, i2, i3, i4, i5⟩ := more (T := T) (4 * T.length + 4)
  rw [atomP, atomI]
  have e1 : ∀ n, atomI T (4 * T.length + 4) n = atomP T n := fun n => i1 n (by omega)
  have e2 : ∀ n, exprI T (4 * T.length + 4) 1 n = exprP T 1 n := fun n => i2 1 n (Nat.le_refl 1) (by omega)
  have e4 : ∀ n, argsI T (4 * T.length + 4) n = argsP T n := fun n => i4 n (by omega)
  simp only [e1, e2, e4]
theorem exprP_eq (lo n : Nat) (hl : 1 ≤ lo) : exprP T lo n = (atomP T n).bind fun e m => loopP T lo e m := by
  obtain ⟨i1, i2, i3, i4, i5⟩ := more (T := T) (4 * T.length + 4)
  obtain ⟨g1, _⟩ := far (T := T) (4 * T.length + 4)
  rw [exprP, exprI]
  refine PR.bind_congr (i1 n (by omega)) fun x a h => ?_
  exact i3 lo x a hl (g1 _ _ _ h).2 (by omega)
theorem loopP_eq (lo : Nat) (e : Ex) (n : Nat) (hl : 1 ≤ lo) : loopP T lo e n = if (sgI (peekI T n)).2.2 < lo then .ok e n
    else (exprP T ((sgI (peekI T n)).2.2 + 1) (n + 1)).bind fun e2 m => loopP T lo (joinI (peekI T n) e e2) m := by
  obtain ⟨i1, i2, i3, i4, i5⟩ := more (T := T) (4 * T.length + 4)
  obtain ⟨_, g2, _⟩ := far (T := T) (4 * T.length + 4)
  rw [loopP, loopI]
  split
  · rfl
  · refine PR.bind_congr (i2 _ _ (by omega) (by omega)) fun x a h => ?_
    exact i3 lo _ a hl (g2 _ _ _ _ h).2 (by omega)
theorem argsP_eq (n : Nat) : argsP T n = if peekI T n = [41] then .ok [] (n + 1) else (exprP T 1 n).bind fun e m => arglP T [e] m := by
  obtain ⟨i1, i2, i3, i4, i5⟩ := more (T := T) (4 * T.length + 4)
  rw [argsP, argsI]
  split
  · rfl
  · exact PR.bind_congr (i2 _ _ (by omega) (by omega)) fun x a h => i5 _ a (by omega)
theorem arglP_eq (acc : List Ex) (n : Nat) : arglP T acc n = if peekI T n = [44] then (exprP T 1 (n + 1)).bind fun e m => arglP T (acc ++ [e]) m
    else (mustI T [41] n).bind fun _ m => .ok acc m := by
  obtain ⟨i1, i2, i3, i4, i5⟩ := more (T := T) (4 * T.length + 4)
  rw [arglP, arglI]
  split
  · exact PR.bind_congr (i2 _ _ (by omega) (by omega)) fun x a h => i5 _ a (by omega)
  · rfl
variable {T}
theorem atomP_far {n m : Nat} {e : Ex} (h : atomP T n = .ok e m) : n < m ∧ m ≤ T.length := (far _).1 _ _ _ h
theorem exprP_far {lo n m : Nat} {e : Ex} (h : exprP T lo n = .ok e m) : n < m ∧ m ≤ T.length := (far _).2.1 _ _ _ _ h
theorem loopP_far {lo n m : Nat} {e e0 : Ex} (hn : n ≤ T.length) (h : loopP T lo e0 n = .ok e m) : n ≤ m ∧ m ≤ T.length := (far _).2.2.1 _ _ _ _ _ hn h
theorem argsP_far {n m : Nat} {e : List Ex} (h : argsP T n = .ok e m) : n < m ∧ m ≤ T.length := (far _).2.2.2.1 _ _ _ h
theorem arglP_far {n m : Nat} {e acc : List Ex} (h : arglP T acc n = .ok e m) : n < m ∧ m ≤ T.length := (far _).2.2.2.2 _ _ _ _ h
end Go.Proofs.YtgcncdjnipfolaaDoor

namespace Go.Proofs.YtgcncdjnipfolaaDoor
open Go.Al
def wVar : Str := [118, 97, 114]
def wArray : Str := [97, 114, 114, 97, 121]
def wFunc : Str := [102, 117, 110, 99]
def wWord : Str := [119, 111, 114, 100]
def wIf : Str := [105, 102]
def wElse : Str := [101, 108, 115, 101]
def wWhile : Str := [119, 104, 105, 108, 101]
def wReturn : Str := [114, 101, 116, 117, 114, 110]
def wPut : Str := [112, 117, 116]
section
variable (T : List Tok)
def roundP (n : Nat) : PR (List Ex) := (mustI T [40] n).bind fun _ m => (exprP T 1 m).bind fun e m => (mustI T [41] m).bind fun _ m => .ok [e] m
def namedP (n : Nat) : PR Sm := (takeI T 1 n).bind fun t m =>
  (if peekI T m = [61] then (exprP T 1 (m + 1)).bind fun e m => .ok (.mk 1 t.text [e] [] []) m
   else if peekI T m = [91] then (exprP T 1 (m + 1)).bind fun a m => (mustI T [93] m).bind fun _ m => (mustI T [61] m).bind fun _ m => (exprP T 1 m).bind fun e m => .ok (.mk 2 t.text [a, e] [] []) m
   else if peekI T m = [40] then (argsP T (m + 1)).bind fun l m => .ok (.mk 6 t.text l [] []) m
   else .bad m : PR Sm).bind fun s m => (mustI T [59] m).bind fun _ m => .ok s m
mutual
def stmtI : Nat → Nat → PR Sm
  | 0, n => .bad n
  | f + 1, n =>
    if peekI T n = wPut then (roundP T (n + 1)).bind fun l m => (mustI T [59] m).bind fun _ m => .ok (.mk 3 [] l [] []) m
    else if peekI T n = wReturn then (if peekI T (n + 1) = [59] then .ok (.mk 7 [] [] [] []) (n + 2) else (exprP T 1 (n + 1)).bind fun e m => (mustI T [59] m).bind fun _ m => .ok (.mk 7 [] [e] [] []) m)
    else if peekI T n = wIf then (roundP T (n + 1)).bind fun l m => (bodyI f m).bind fun t m => if peekI T m = wElse then (bodyI f (m + 1)).bind fun u m => .ok (.mk 4 [] l t u) m else .ok (.mk 4 [] l t []) m
    else if peekI T n = wWhile then (roundP T (n + 1)).bind fun l m => (bodyI f m).bind fun t m => .ok (.mk 5 [] l t []) m
    else namedP T n
def bodyI : Nat → Nat → PR (List Sm)
  | 0, n => .bad n
  | f + 1, n => (mustI T [123] n).bind fun _ m => stmtsI f [] m
def stmtsI : Nat → List Sm → Nat → PR (List Sm)
  | 0, _, n => .bad n
  | f + 1, acc, n => if peekI T n = [125] then .ok acc (n + 1) else (stmtI f n).bind fun s m => stmtsI f (acc ++ [s]) m
end
def nmI : Nat → List Str → Nat → PR (List Str)
  | 0, _, n => .bad n
  | f + 1, acc, n => if peekI T n = [44] then (takeI T 1 (n + 1)).bind fun t m => nmI f (acc ++ [t.text]) m else .ok acc n
end
variable {T : List Tok}
theorem round_far {n m : Nat} {l : List Ex} (h : roundP T n = .ok l m) : n < m ∧ m ≤ T.length := by
  unfold roundP at h
  obtain ⟨_, a, h1, h2⟩ := PR.bind_eq_ok h
  obtain ⟨e, c, h3, h4⟩ := PR.bind_eq_ok h2
  obtain ⟨_, d, h5, h6⟩ := PR.bind_eq_ok h4
  have := must_ok h1 (by decide)
  have := exprP_far h3
  have := must_ok h5 (by decide)
  cases h6; omega
theorem named_far {n m : Nat} {s : Sm} (h : namedP T n = .ok s m) : n < m ∧ m ≤ T.length := by
  unfold namedP at h
  obtain ⟨t, a, h1, h2⟩ := PR.bind_eq_ok h
  obtain ⟨x, c, h3, h4⟩ := PR.bind_eq_ok h2
  obtain ⟨_, d, h5, h6⟩ := PR.bind_eq_ok h4
  have := take_ok h1
  have := must_ok h5 (by decide)
  have : a < c := by
    split at h3
    · obtain ⟨y, b, g1, g2⟩ := PR.bind_eq_ok h3
      have := exprP_far g1
      cases g2; omega
    split at h3
    · obtain ⟨y, b, g1, g2⟩ := PR.bind_eq_ok h3
      obtain ⟨_, b2, g3, g4⟩ := PR.bind_eq_ok g2
      obtain ⟨_, b3, g5, g6⟩ := PR.bind_eq_ok g4
      obtain ⟨z, b4, g7, g8⟩ := PR.bind_eq_ok g6
      have := exprP_far g1
      have := must_ok g3 (by decide)
      have := must_ok g5 (by decide)
      have := exprP_far g7
      cases g8; omega
    split at h3
    · obtain ⟨y, b, g1, g2⟩ := PR.bind_eq_ok h3
      have := argsP_far g1
      cases g2; omega
    · cases h3
  cases h6; omega
theorem farS (f : Nat) : (∀ n e m, stmtI T f n = .ok e m → n < m ∧ m ≤ T.length) ∧ (∀ n l m, bodyI T f n = .ok l m → n < m ∧ m ≤ T.length) ∧ (∀ acc n l m, stmtsI T f acc n = .ok l m → n < m ∧ m ≤ T.length) := by
  induction f with
  | zero => exact ⟨fun _ _ _ h => by simp [stmtI] at h, fun _ _ _ h => by simp [bodyI] at h, fun _ _ _ _ h => by simp [stmtsI] at h⟩
  | succ f ih =>
    obtain ⟨i1, i2, i3⟩ := ih
    refine ⟨fun n e m h => ?_, fun n l m h => ?_, fun acc n l m h => ?_⟩
    · rw [stmtI] at h
      split at h
      · obtain ⟨l, a, h1, h2⟩ := PR.bind_eq_ok h
        obtain ⟨_, c, h3, h4⟩ := PR.bind_eq_ok h2
        have := round_far h1
        have := must_ok h3 (by decide)
        cases h4; omega
      split at h
      · split at h
        · rename_i hp
          have := peek_lt hp (by decide)
          cases h; omega
        · obtain ⟨l, a, h1, h2⟩ := PR.bind_eq_ok h
          obtain ⟨_, c, h3, h4⟩ := PR.bind_eq_ok h2
          have := exprP_far h1
          have := must_ok h3 (by decide)
          cases h4; omega
      split at h
      · obtain ⟨l, a, h1, h2⟩ := PR.bind_eq_ok h
        obtain ⟨t, c, h3, h4⟩ := PR.bind_eq_ok h2
        have := round_far h1
        have := i2 _ _ _ h3
        split at h4
        · obtain ⟨u, d, h5, h6⟩ := PR.bind_eq_ok h4
          have := i2 _ _ _ h5
          cases h6; omega
        · cases h4; omega
      split at h
      · obtain ⟨l, a, h1, h2⟩ := PR.bind_eq_ok h
        obtain ⟨t, c, h3, h4⟩ := PR.bind_eq_ok h2
        have := round_far h1
        have := i2 _ _ _ h3
        cases h4; omega
      · exact named_far h
    · rw [bodyI] at h
      obtain ⟨_, a, h1, h2⟩ := PR.bind_eq_ok h
      have := must_ok h1 (by decide)
      have := i3 _ _ _ _ h2
      omega
    · rw [stmtsI] at h
      split at h
      · rename_i hp
        have := peek_lt hp (by decide)
        cases h; omega
      · obtain ⟨s, a, h1, h2⟩ := PR.bind_eq_ok h
        have := i1 _ _ _ h1
        have := i3 _ _ _ _ h2
        omega
theorem moreS (f : Nat) : (∀ n, 4 * (T.length - n) + 1 ≤ f → stmtI T f n = stmtI T (f + 1) n) ∧ (∀ n, 4 * (T.length - n) + 1 ≤ f → bodyI T f n = bodyI T (f + 1) n) ∧ (∀ acc n, 4 * (T.length - n) + 2 ≤ f → stmtsI T f acc n = stmtsI T (f + 1) acc n) := by
  induction f with
  | zero => exact ⟨fun _ h => by omega, fun _ h => by omega, fun _ _ h => by omega⟩
  | succ f ih =>
    obtain ⟨i1, i2, i3⟩ := ih
    obtain ⟨g1, g2, g3⟩ := farS (T := T) f
    refine ⟨fun n hn => ?_, fun n hn => ?_, fun acc n hn => ?_⟩
    · rw [stmtI, stmtI]
      split
      · rfl
      split
      · rfl
      split
      · refine PR.bind_congr rfl fun l a h1 => ?_
        have := round_far h1
        refine PR.bind_congr (i2 a (by omega)) fun t c h2 => ?_
        have := g2 _ _ _ h2
        split
        · rename_i hp
          have := peek_lt hp (by decide)
          rw [i2 (c + 1) (by omega)]
        · rfl
      split
      · refine PR.bind_congr rfl fun l a h1 => ?_
        have := round_far h1
        rw [i2 a (by omega)]
      · rfl
    · rw [bodyI, bodyI]
      refine PR.bind_congr rfl fun l a h1 => ?_
      have := must_ok h1 (by decide)
      exact i3 _ a (by omega)
    · rw [stmtsI, stmtsI]
      split
      · rfl
      · refine PR.bind_congr (i1 n (by omega)) fun s a h1 => ?_
        have := g1 _ _ _ h1
        exact i3 _ a (by omega)
theorem farN (f : Nat) : ∀ acc n l m, n ≤ T.length → nmI T f acc n = .ok l m → n ≤ m ∧ m ≤ T.length := by
  induction f with
  | zero => intro _ _ _ _ _ h; simp [nmI] at h
  | succ f ih =>
    intro acc n l m hn h
    rw [nmI] at h
    split at h
    · obtain ⟨s, a, h1, h2⟩ := PR.bind_eq_ok h
      have := take_ok h1
      have := ih _ _ _ _ (by omega) h2
      omega
    · cases h; omega
theorem moreN (f : Nat) : ∀ acc n, n ≤ T.length → (T.length - n) + 1 ≤ f → nmI T f acc n = nmI T (f + 1) acc n := by
  induction f with
  | zero => intro _ _ _ h; omega
  | succ f ih =>
    intro acc n hn h
    rw [nmI, nmI]
    split
    · refine PR.bind_congr rfl fun t a h1 => ?_
      have := take_ok h1
      exact ih _ _ (by omega) (by omega)
    · rfl
variable (T)
def stmtP (n : Nat) : PR Sm := stmtI T (4 * T.length + 5) n
def bodyP (n : Nat) : PR (List Sm) := bodyI T (4 * T.length + 5) n
def stmtsP (acc : List Sm) (n : Nat) : PR (List Sm) := stmtsI T (4 * T.length + 5) acc n
def nmP (acc : List Str) (n : Nat) : PR (List Str) := nmI T (T.length + 2) acc n
def namesP (n : Nat) : PR (List Str) := (takeI T 1 n).bind fun t m => nmP T [t.text] m
theorem stmtP_eq (n : Nat) : stmtP T n =
    if peekI T n = wPut then (roundP T (n + 1)).bind fun l m => (mustI T [59] m).bind fun _ m => .ok (.mk 3 [] l [] []) m
    else if peekI T n = wReturn then (if peekI T (n + 1) = [59] then .ok (.mk 7 [] [] [] []) (n + 2) else (exprP T 1 (n + 1)).bind fun e m => (mustI T [59] m).bind fun _ m => .ok (.mk 7 [] [e] [] []) m)
    else if peekI T n = wIf then (roundP T (n + 1)).bind fun l m => (bodyP T m).bind fun t m => if peekI T m = wElse then (bodyP T (m + 1)).bind fun u m => .ok (.mk 4 [] l t u) m else .ok (.mk 4 [] l t []) m
    else if peekI T n = wWhile then (roundP T (n + 1)).bind fun l m => (bodyP T m).bind fun t m => .ok (.mk 5 [] l t []) m
    else namedP T n := by
  obtain ⟨_, i2, _⟩ := moreS (T := T) (4 * T.length + 4)
  have e2 : ∀ n, bodyI T (4 * T.length + 4) n = bodyP T n := fun n => i2 n (by omega)
  rw [stmtP, stmtI]
  simp only [e2]
theorem bodyP_eq (n : Nat) : bodyP T n = (mustI T [123] n).bind fun _ m => stmtsP T [] m := by
  obtain ⟨_, _, i3⟩ := moreS (T := T) (4 * T.length + 4)
  rw [bodyP, bodyI]
  exact PR.bind_congr rfl fun x a h => i3 _ a (by omega)
theorem stmtsP_eq (acc : List Sm) (n : Nat) : stmtsP T acc n = if peekI T n = [125] then .ok acc (n + 1) else (stmtP T n).bind fun s m => stmtsP T (acc ++ [s]) m := by
  obtain ⟨i1, _, i3⟩ := moreS (T := T) (4 * T.length + 4)
  rw [stmtsP, stmtsI]
  split
  · rfl
  · exact PR.bind_congr (i1 n (by omega)) fun x a h => i3 _ a (by omega)
theorem nmP_eq (acc : List Str) (n : Nat) : nmP T acc n = if peekI T n = [44] then (takeI T 1 (n + 1)).bind fun t m => nmP T (acc ++ [t.text]) m else .ok acc n := by
  rw [nmP, nmI]
  split
  · refine PR.bind_congr rfl fun x a h => ?_
    have := take_ok h
    exact moreN _ _ a (by omega) (by omega)
  · rfl
variable {T}
theorem stmtP_far {n m : Nat} {e : Sm} (h : stmtP T n = .ok e m) : n < m ∧ m ≤ T.length := (farS _).1 _ _ _ h
theorem bodyP_far {n m : Nat} {e : List Sm} (h : bodyP T n = .ok e m) : n < m ∧ m ≤ T.length := (farS _).2.1 _ _ _ h
theorem stmtsP_far {n m : Nat} {e acc : List Sm} (h : stmtsP T acc n = .ok e m) : n < m ∧ m ≤ T.length := (farS _).2.2 _ _ _ _ h
theorem nmP_far {n m : Nat} {e acc : List Str} (hn : n ≤ T.length) (h : nmP T acc n = .ok e m) : n ≤ m ∧ m ≤ T.length := farN _ _ _ _ _ hn h
theorem namesP_far {n m : Nat} {e : List Str} (h : namesP T n = .ok e m) : n < m ∧ m ≤ T.length := by
  obtain ⟨t, a, h1, h2⟩ := PR.bind_eq_ok h
  have := take_ok h1
  have := nmP_far (by omega) h2
  omega
/-! ### functions, programs -/
def locI (T : List Tok) : Nat → List Str → Nat → PR (List Str)
  | 0, _, n => .bad n
  | f + 1, acc, n => if peekI T n = wVar then (namesP T (n + 1)).bind fun l m => (mustI T [59] m).bind fun _ m => locI T f (acc ++ l) m else .ok acc n
theorem farL (f : Nat) : ∀ acc n l m, n ≤ T.length → locI T f acc n = .ok l m → n ≤ m ∧ m ≤ T.length := by
  induction f with
  | zero => intro _ _ _ _ _ h; simp [locI] at h
  | succ f ih =>
    intro acc n l m hn h
    rw [locI] at h
    split at h
    · obtain ⟨s, a, h1, h2⟩ := PR.bind_eq_ok h
      obtain ⟨_, c, h3, h4⟩ := PR.bind_eq_ok h2
      have := namesP_far h1
      have := must_ok h3 (by decide)
      have := ih _ _ _ _ (by omega) h4
      omega
    · cases h; omega
theorem moreL (f : Nat) : ∀ acc n, n ≤ T.length → (T.length - n) + 1 ≤ f → locI T f acc n = locI T (f + 1) acc n := by
  induction f with
  | zero => intro _ _ _ h; omega
  | succ f ih =>
    intro acc n hn h
    rw [locI, locI]
    split
    · refine PR.bind_congr rfl fun t a h1 => PR.bind_congr rfl fun _ c h2 => ?_
      have := namesP_far h1
      have := must_ok h2 (by decide)
      exact ih _ _ (by omega) (by omega)
    · rfl
def locP (T : List Tok) (acc : List Str) (n : Nat) : PR (List Str) := locI T (T.length + 2) acc n
theorem locP_eq (T : List Tok) (acc : List Str) (n : Nat) : locP T acc n = if peekI T n = wVar then (namesP T (n + 1)).bind fun l m => (mustI T [59] m).bind fun _ m => locP T (acc ++ l) m else .ok acc n := by
  rw [locP, locI]
  split
  · refine PR.bind_congr rfl fun x a h => PR.bind_congr rfl fun _ c h2 => ?_
    have := must_ok h2 (by decide)
    exact moreL _ _ c (by omega) (by omega)
  · rfl
theorem locP_far {n m : Nat} {e acc : List Str} (hn : n ≤ T.length) (h : locP T acc n = .ok e m) : n ≤ m ∧ m ≤ T.length := farL _ _ _ _ _ hn h
def funP (T : List Tok) (n : Nat) : PR Fu := (mustI T wFunc n).bind fun _ m => (takeI T 1 m).bind fun t m => (mustI T [40] m).bind fun _ m =>
  (if kindI T m = 1 then namesP T m else .ok [] m : PR (List Str)).bind fun ps m => (mustI T [41] m).bind fun _ m =>
    (mustI T [123] (if peekI T m = wWord then m + 1 else m)).bind fun _ c => (locP T [] c).bind fun ls c => (stmtsP T [] c).bind fun b c => .ok ⟨t.text, ps, ls, decide (peekI T m = wWord), b⟩ c
theorem funP_far {n m : Nat} {g : Fu} (h : funP T n = .ok g m) : n < m ∧ m ≤ T.length := by
  unfold funP at h
  obtain ⟨_, a1, h1, h⟩ := PR.bind_eq_ok h
  obtain ⟨t, a2, h2, h⟩ := PR.bind_eq_ok h
  obtain ⟨_, a3, h3, h⟩ := PR.bind_eq_ok h
  obtain ⟨ps, a4, h4, h⟩ := PR.bind_eq_ok h
  obtain ⟨_, a5, h5, h⟩ := PR.bind_eq_ok h
  obtain ⟨_, a6, h6, h⟩ := PR.bind_eq_ok h
  obtain ⟨ls, a7, h7, h⟩ := PR.bind_eq_ok h
  obtain ⟨b, a8, h8, h⟩ := PR.bind_eq_ok h
  have := must_ok h1 (by decide)
  have := take_ok h2
  have := must_ok h3 (by decide)
  have : a3 ≤ a4 := by
    split at h4
    · have := namesP_far h4; omega
    · cases h4; omega
  have := must_ok h5 (by decide)
  have h6' := must_ok h6 (by decide)
  have : a5 < a6 := by have := h6'.1; split at this <;> omega
  have := locP_far (by omega) h7
  have := stmtsP_far h8
  cases h; omega
def headI (T : List Tok) : Nat → List Str → List Ar → Nat → PR (List Str × List Ar)
  | 0, _, _, n => .bad n
  | f + 1, vs, as', n =>
    if peekI T n = wVar then (namesP T (n + 1)).bind fun l m => (mustI T [59] m).bind fun _ m => headI T f (vs ++ l) as' m
    else if peekI T n = wArray then (takeI T 1 (n + 1)).bind fun t m => (mustI T [91] m).bind fun _ m => (takeI T 2 m).bind fun u m => (mustI T [93] m).bind fun _ m => (mustI T [59] m).bind fun _ m => headI T f vs (as' ++ [⟨t.text, u.num⟩]) m
    else .ok (vs, as') n
theorem farH (f : Nat) : ∀ vs as' n l m, n ≤ T.length → headI T f vs as' n = .ok l m → n ≤ m ∧ m ≤ T.length := by
  induction f with
  | zero => intro _ _ _ _ _ _ h; simp [headI] at h
  | succ f ih =>
    intro vs as' n l m hn h
    rw [headI] at h
    split at h
    · obtain ⟨s, a, h1, h2⟩ := PR.bind_eq_ok h
      obtain ⟨_, c, h3, h4⟩ := PR.bind_eq_ok h2
      have := namesP_far h1
      have := must_ok h3 (by decide)
      have := ih _ _ _ _ _ (by omega) h4
      omega
    split at h
    · obtain ⟨t, a1, h1, h⟩ := PR.bind_eq_ok h
      obtain ⟨_, a2, h2, h⟩ := PR.bind_eq_ok h
      obtain ⟨u, a3, h3, h⟩ := PR.bind_eq_ok h
      obtain ⟨_, a4, h4, h⟩ := PR.bind_eq_ok h
      obtain ⟨_, a5, h5, h⟩ := PR.bind_eq_ok h
      have := take_ok h1
      have := must_ok h2 (by decide)
      have := take_ok h3
      have := must_ok h4 (by decide)
      have := must_ok h5 (by decide)
      have := ih _ _ _ _ _ (by omega) h
      omega
    · cases h; omega
theorem moreH (f : Nat) : ∀ vs as' n, n ≤ T.length → (T.length - n) + 1 ≤ f → headI T f vs as' n = headI T (f + 1) vs as' n := by
  induction f with
  | zero => intro _ _ _ _ h; omega
  | succ f ih =>
    intro vs as' n hn h
    rw [headI, headI]
    split
    · refine PR.bind_congr rfl fun t a h1 => PR.bind_congr rfl fun _ c h2 => ?_
      have := namesP_far h1
      have := must_ok h2 (by decide)
      exact ih _ _ _ (by omega) (by omega)
    split
    · refine PR.bind_congr rfl fun t a1 h1 => PR.bind_congr rfl fun _ a2 h2 => PR.bind_congr rfl fun u a3 h3 => PR.bind_congr rfl fun _ a4 h4 => PR.bind_congr rfl fun _ a5 h5 => ?_
      have := take_ok h1
      have := must_ok h2 (by decide)
      have := take_ok h3
      have := must_ok h4 (by decide)
      have := must_ok h5 (by decide)
      exact ih _ _ _ (by omega) (by omega)
    · rfl
def headP (T : List Tok) (vs : List Str) (as' : List Ar) (n : Nat) : PR (List Str × List Ar) := headI T (T.length + 2) vs as' n
theorem headP_eq (T : List Tok) (vs : List Str) (as' : List Ar) (n : Nat) : headP T vs as' n =
    if peekI T n = wVar then (namesP T (n + 1)).bind fun l m => (mustI T [59] m).bind fun _ m => headP T (vs ++ l) as' m
    else if peekI T n = wArray then (takeI T 1 (n + 1)).bind fun t m => (mustI T [91] m).bind fun _ m => (takeI T 2 m).bind fun u m => (mustI T [93] m).bind fun _ m => (mustI T [59] m).bind fun _ m => headP T vs (as' ++ [⟨t.text, u.num⟩]) m
    else .ok (vs, as') n := by
  rw [headP, headI]
  split
  · refine PR.bind_congr rfl fun x a h => PR.bind_congr rfl fun _ c h2 => ?_
    have := must_ok h2 (by decide)
    exact moreH _ _ _ c (by omega) (by omega)
  split
  · refine PR.bind_congr rfl fun t a1 h1 => PR.bind_congr rfl fun _ a2 h2 => PR.bind_congr rfl fun u a3 h3 => PR.bind_congr rfl fun _ a4 h4 => PR.bind_congr rfl fun _ a5 h5 => ?_
    have := must_ok h5 (by decide)
    exact moreH _ _ _ a5 (by omega) (by omega)
  · rfl
theorem headP_far {n m : Nat} {e : List Str × List Ar} {vs : List Str} {as' : List Ar} (hn : n ≤ T.length) (h : headP T vs as' n = .ok e m) : n ≤ m ∧ m ≤ T.length := farH _ _ _ _ _ _ hn h
def funsI (T : List Tok) : Nat → List Fu → Nat → PR (List Fu)
  | 0, _, n => .bad n
  | f + 1, acc, n => if n < T.length then (funP T n).bind fun g m => funsI T f (acc ++ [g]) m else .ok acc n
theorem farF (f : Nat) : ∀ acc n l m, n ≤ T.length → funsI T f acc n = .ok l m → m = T.length := by
  induction f with
  | zero => intro _ _ _ _ _ h; simp [funsI] at h
  | succ f ih =>
    intro acc n l m hn h
    rw [funsI] at h
    split at h
    · obtain ⟨s, a, h1, h2⟩ := PR.bind_eq_ok h
      have := funP_far h1
      exact ih _ _ _ _ (by omega) h2
    · cases h; omega
theorem moreF (f : Nat) : ∀ acc n, n ≤ T.length → (T.length - n) + 1 ≤ f → funsI T f acc n = funsI T (f + 1) acc n := by
  induction f with
  | zero => intro _ _ _ h; omega
  | succ f ih =>
    intro acc n hn h
    rw [funsI, funsI]
    split
    · refine PR.bind_congr rfl fun t a h1 => ?_
      have := funP_far h1
      exact ih _ _ (by omega) (by omega)
    · rfl
def funsP (T : List Tok) (acc : List Fu) (n : Nat) : PR (List Fu) := funsI T (T.length + 2) acc n
theorem funsP_eq (T : List Tok) (acc : List Fu) (n : Nat) : funsP T acc n = if n < T.length then (funP T n).bind fun g m => funsP T (acc ++ [g]) m else .ok acc n := by
  rw [funsP, funsI]
  split
  · refine PR.bind_congr rfl fun x a h => ?_
    have := funP_far h
    exact moreF _ _ a (by omega) (by omega)
  · rfl
theorem funsP_far {n m : Nat} {e acc : List Fu} (hn : n ≤ T.length) (h : funsP T acc n = .ok e m) : m = T.length := farF _ _ _ _ _ hn h
def progP (T : List Tok) (n : Nat) : PR Pg := (headP T [] [] n).bind fun va m => (funP T m).bind fun g m => (funsP T [g] m).bind fun fs m => .ok ⟨va.1, va.2, fs⟩ m
def atI (T : List Tok) (e n : Nat) : Int := match T[n]? with
  | some t => t.pos
  | none => e
def pgZ : Pg := ⟨[], [], []⟩
def exZ : Ex := .mk 0 0 0 [] []
def srcP (s : Str) : Pg × Int × Int := match lexS s with
  | .error (i, e) => (pgZ, i, e)
  | .ok T => match progP T 0 with
    | .bad m => (pgZ, atI T s.length m, 3)
    | .ok p m => if m < T.length then (pgZ, atI T s.length m, 3) else if rightP p = true then (p, 0, 0) else (pgZ, 0, 2)
def aloneP (e : Ex) : Pg := ⟨[], [], [⟨[109, 97, 105, 110], [], [], false, [.mk 3 [] [e] [] []]⟩]⟩
def srcE (s : Str) : Ex × Int × Int := match lexS s with
  | .error (i, e) => (exZ, i, e)
  | .ok T => match exprP T 1 0 with
    | .bad m => (exZ, atI T s.length m, 3)
    | .ok x m => if m < T.length then (exZ, atI T s.length m, 3) else if rightP (aloneP x) = true then (x, 0, 0) else (exZ, 0, 2)
end Go.Proofs.YtgcncdjnipfolaaDoor

namespace Go.Proofs.YtgcncdjnipfolaaDoor
def goB (t : Tok) (c : UInt8) : Bool :=
  if t.kind = 2 then isD c && !decide (t.text[0]? = some 39)
  else if t.kind = 4 then decide (t.text = [c]) && (c == 60 || c == 61 || c == 38 || c == 124)
  else isN c
def stopB (t : Tok) (c : UInt8) : Bool := !goB t c && !(decide (t.text = [47]) && c == 47)
def lets (t : Tok) (r : List UInt8) : Prop := ∀ c r', r = c :: r' → stopB t c = true
theorem lets_nil (t : Tok) : lets t [] := fun c r' h => by cases h
theorem lets_hd {t : Tok} {r r2 : List UInt8} (h : lets t r) (h2 : ∀ c r', r2 = c :: r' → ∃ r3, r = c :: r3) : lets t r2 := fun c r' e => by
  obtain ⟨r3, e3⟩ := h2 c r' e
  exact h c r3 e3
theorem takeWhile_app (p : UInt8 → Bool) : ∀ (s r : List UInt8), s.all p = true → (∀ c r', r = c :: r' → p c = false) → (s ++ r).takeWhile p = s
  | [], [], _, _ => rfl
  | [], c :: r, _, h => by simp [List.takeWhile, h c r rfl]
  | c :: s, r, hs, h => by
    simp only [List.all_cons, Bool.and_eq_true] at hs
    simp only [List.cons_append, List.takeWhile, hs.1, takeWhile_app p s r hs.2 h]
theorem takeWhile_split (p : UInt8 → Bool) : ∀ s : List UInt8, ∃ r, s = s.takeWhile p ++ r ∧ (∀ c r', r = c :: r' → p c = false) ∧ r = s.dropWhile p
  | [] => ⟨[], rfl, (fun _ _ h => by cases h), rfl⟩
  | c :: s => by
    cases h : p c with
    | true =>
      obtain ⟨r, e, h2, h3⟩ := takeWhile_split p s
      refine ⟨r, ?_, h2, ?_⟩
      · simp only [List.takeWhile, h, List.cons_append]; rw [← e]
      · simp only [List.dropWhile, h]; exact h3
    | false => exact ⟨c :: s, by simp [List.takeWhile, h], fun c' r' e => by cases e; exact h, by simp [List.dropWhile, h]⟩
theorem all_tw (p : UInt8 → Bool) (s : List UInt8) : (s.takeWhile p).all p = true := all_takeWhile p s
theorem alph_isN {c : UInt8} (h : alphI c.toNat = true) : isN c = true := by simp [isN, inI, h]
theorem dig_isN {c : UInt8} (h : isD c = true) : isN c = true := by
  have : digI c.toNat = true := h
  simp [isN, inI, this]
theorem firstS_num {c : UInt8} {r : List UInt8} (h : isD c = true) : firstS (c :: r) = numTok ((c :: r).takeWhile isD) := by
  have : digI c.toNat = true := h
  simp only [firstS, this, if_true]
theorem firstS_quote (r : List UInt8) : firstS (39 :: r) = byteS (39 :: r) := by
  have h1 : digI ((39 : UInt8).toNat : Int) = false := by decide
  simp only [firstS, h1, Bool.false_eq_true, if_false]
  rfl
theorem firstS_name {c : UInt8} {r : List UInt8} (h : alphI c.toNat = true) : firstS (c :: r) = nameS ((c :: r).takeWhile isN) := by
  have h1 : digI c.toNat = false := by
    cases e : digI c.toNat with
    | false => rfl
    | true => simp [digI, alphI] at e h; omega
  have h2 : ¬ ((c.toNat : Int) = 39) := by
    simp [alphI] at h; omega
  simp only [firstS, h1, h2, h, Bool.false_eq_true, if_false, decide_false, if_true]
def isS (c : UInt8) : Bool := !isD c && !(c == 39) && !alphI c.toNat
def signS (s : List UInt8) : Tok × Int := match signsL.find? (hasP s) with | some w => (⟨4, w, 0, 0⟩, 0) | none => (tok0, 3)
theorem u8_39 {c : UInt8} : (decide ((c.toNat : Int) = 39)) = (c == 39) := by
  rw [Bool.eq_iff_iff]
  simp only [decide_eq_true_eq, beq_iff_eq]
  constructor
  · intro h; apply UInt8.toNat_inj.1; simpa using Int.ofNat.inj h
  · intro h; subst h; rfl
theorem firstS_sign {c : UInt8} {r : List UInt8} (h : isS c = true) : firstS (c :: r) = signS (c :: r) := by
  simp only [isS, isD, Bool.and_eq_true, Bool.not_eq_true'] at h
  simp only [firstS, h.1.1, u8_39, h.1.2, h.2, Bool.false_eq_true, if_false]
  rfl
theorem cases_hd (c : UInt8) : isD c = true ∨ c = 39 ∨ alphI c.toNat = true ∨ isS c = true := by
  cases h1 : isD c with
  | true => exact .inl rfl
  | false =>
    by_cases h2 : c = 39
    · exact .inr (.inl h2)
    · cases h3 : alphI c.toNat with
      | true => exact .inr (.inr (.inl rfl))
      | false =>
        refine .inr (.inr (.inr ?_))
        simp [isS, h1, h3, h2]
inductive Fst : List UInt8 → Tok → List UInt8 → Prop where
  | num (ds r : List UInt8) (n : Int) (h0 : ds ≠ []) (hd : ds.all isD = true) (hn : numS 0 ds = some n) (hr : ∀ c r', r = c :: r' → isD c = false) : Fst (ds ++ r) ⟨2, ds, n, 0⟩ r
  | byte (c : UInt8) (r : List UInt8) (h : byteOk c 39 = true) : Fst (39 :: c :: 39 :: r) ⟨2, [39, c, 39], c.toNat, 0⟩ r
  | name (c : UInt8) (s r : List UInt8) (k : Int) (hc : alphI c.toNat = true) (hs : s.all isN = true) (hl : (c :: s).length ≤ 20) (hk : k = if wordsL.contains (c :: s) then 3 else 1) (hr : ∀ c r', r = c :: r' → isN c = false) : Fst (c :: s ++ r) ⟨k, c :: s, 0, 0⟩ r
  | sign (w r : List UInt8) (hw : w ∈ signsL) (hr : ∀ c r', r = c :: r' → goB ⟨4, w, 0, 0⟩ c = false) : Fst (w ++ r) ⟨4, w, 0, 0⟩ r
theorem beq_app1 (a b : UInt8) (r : List UInt8) : hasP (a :: r) [b] = (a == b) := by
  simp only [hasP, List.length_cons, List.length_nil, List.take_succ_cons, List.take_zero]
  rw [Bool.eq_iff_iff]; simp
theorem beq_app2 (a x y : UInt8) (r : List UInt8) : hasP (a :: r) [x, y] = (a == x && decide (r.take 1 = [y])) := by
  simp only [hasP, List.length_cons, List.length_nil, List.take_succ_cons]
  rw [Bool.eq_iff_iff]; simp
theorem take1 {r : List UInt8} {y : UInt8} : decide (r.take 1 = [y]) = match r with | [] => false | c :: _ => c == y := by
  cases r with
  | nil => rfl
  | cons c r => rw [Bool.eq_iff_iff]; simp
def twos : List UInt8 := [60, 62, 61, 38, 124]
def ones : List UInt8 := [40, 41, 123, 125, 91, 93, 59, 44, 61, 43, 45, 42, 47, 37, 38, 124, 94, 60, 33]
theorem signsL_eq : signsL = twos.map (fun c => [c, c]) ++ ones.map (fun c => [c]) := rfl
theorem find_map {α β : Type} (f : α → β) (p : β → Bool) : ∀ l : List α, (l.map f).find? p = (l.find? (fun x => p (f x))).map f
  | [] => rfl
  | x :: l => by
    simp only [List.map_cons, List.find?]
    cases p (f x) <;> simp [find_map f p l]
theorem find_eq (c : UInt8) (b : Bool) : ∀ l : List UInt8, l.find? (fun x => c == x && b) = if l.contains c && b then some c else none
  | [] => by simp
  | x :: l => by
    simp only [List.find?]
    by_cases h : c = x
    · subst h
      cases b
      · have := find_eq c false l; simp at this ⊢
      · simp
    · have h1 : (c == x) = false := by simp [h]
      rw [h1, Bool.false_and]
      simp only
      rw [find_eq c b l]
      simp [h]
def again (c : UInt8) (r : List UInt8) : Bool := match r with | [] => false | d :: _ => d == c
theorem signS_eq (c : UInt8) (r : List UInt8) : signS (c :: r) = if twos.contains c && again c r then (⟨4, [c, c], 0, 0⟩, 0) else if ones.contains c then (⟨4, [c], 0, 0⟩, 0) else (tok0, 3) := by
  have h2 : (twos.map (fun x => [x, x])).find? (hasP (c :: r)) = if twos.contains c && again c r then some [c, c] else none := by
    rw [find_map]
    have : (fun x : UInt8 => hasP (c :: r) [x, x]) = fun x => c == x && again c r := by
      funext x
      rw [beq_app2, take1]
      by_cases h : c = x
      · subst h; cases r <;> rfl
      · have : (c == x) = false := by simp [h]
        rw [this]; rfl
    rw [this, find_eq]
    split <;> rfl
  have h1 : (ones.map (fun x => [x])).find? (hasP (c :: r)) = if ones.contains c then some [c] else none := by
    rw [find_map]
    have : (fun x : UInt8 => hasP (c :: r) [x]) = fun x => c == x && true := by
      funext x
      rw [beq_app1, Bool.and_true]
    rw [this, find_eq, Bool.and_true]
    split <;> rfl
  simp only [signS, signsL_eq, List.find?_append, h2, h1]
  cases twos.contains c && again c r <;> cases ones.contains c <;> rfl
end Go.Proofs.YtgcncdjnipfolaaDoor
namespace Go.Proofs.YtgcncdjnipfolaaDoor
theorem dig39 {c : UInt8} (h : isD c = true) : ¬ c = 39 := by
  intro e; subst e; revert h; decide
theorem alph39 {c : UInt8} (h : alphI c.toNat = true) : ¬ c = 39 := by
  intro e; subst e; revert h; decide
theorem alph_not_dig {c : UInt8} (h : alphI c.toNat = true) : isD c = false := by
  cases e : isD c with
  | false => rfl
  | true => simp [isD, digI, alphI] at e h; omega
theorem goB_num {ds : List UInt8} {n p : Int} (h0 : ds ≠ []) (hd : ds.all isD = true) (c : UInt8) : goB ⟨2, ds, n, p⟩ c = isD c := by
  cases ds with
  | nil => exact absurd rfl h0
  | cons d ds =>
    simp only [List.all_cons, Bool.and_eq_true] at hd
    have := dig39 hd.1
    simp [goB, this]
theorem goB_byte {d : UInt8} {n p : Int} (c : UInt8) : goB ⟨2, [39, d, 39], n, p⟩ c = false := by simp [goB]
theorem goB_name {k : Int} {s : List UInt8} {n p : Int} (hk : k = 1 ∨ k = 3) (c : UInt8) : goB ⟨k, s, n, p⟩ c = isN c := by
  rcases hk with rfl | rfl <;> simp [goB]
theorem kk (b : Bool) : (if b then (3 : Int) else 1) = 1 ∨ (if b then (3 : Int) else 1) = 3 := by cases b <;> simp
theorem Fst.split {s r : List UInt8} {t : Tok} (h : Fst s t r) : s = t.text ++ r := by
  cases h <;> simp
theorem Fst.go {s r : List UInt8} {t : Tok} (h : Fst s t r) : ∀ c r', r = c :: r' → goB t c = false := by
  intro c r' e
  cases h with
  | num ds r n h0 hd hn hr => rw [goB_num h0 hd]; exact hr c r' e
  | byte d r h => exact goB_byte c
  | name d s r k hc hs hl hk hr => rw [goB_name (by rw [hk]; exact kk _)]; exact hr c r' e
  | sign w r hw hr => exact hr c r' e
theorem Fst.swap {s r r2 : List UInt8} {t : Tok} (h : Fst s t r) (hr2 : ∀ c r', r2 = c :: r' → goB t c = false) : Fst (t.text ++ r2) t r2 := by
  cases h with
  | num ds r n h0 hd hn hr => exact .num ds r2 n h0 hd hn fun c r' e => by have := hr2 c r' e; rwa [goB_num h0 hd] at this
  | byte d r h => exact .byte d r2 h
  | name d s r k hc hs hl hk hr => exact .name d s r2 k hc hs hl hk fun c r' e => by have := hr2 c r' e; rwa [goB_name (by rw [hk]; exact kk _)] at this
  | sign w r hw hr => exact .sign w r2 hw hr2
theorem Fst.ne {s r : List UInt8} {t : Tok} (h : Fst s t r) : t.text ≠ [] := by
  cases h with
  | num ds r n h0 => exact h0
  | byte => simp
  | name => simp
  | sign w r hw => intro e; simp only at e; subst e; revert hw; decide
theorem Fst.pos {s r : List UInt8} {t : Tok} (h : Fst s t r) : t.pos = 0 := by cases h <;> rfl
theorem Fst.kind {s r : List UInt8} {t : Tok} (h : Fst s t r) : 1 ≤ t.kind ∧ t.kind ≤ 4 ∧ (t.kind ≠ 2 → t.num = 0) := by
  cases h with
  | num => exact ⟨by simp only; omega, by simp only; omega, fun h => absurd rfl h⟩
  | byte => exact ⟨by simp only; omega, by simp only; omega, fun h => absurd rfl h⟩
  | name d s r k hc hs hl hk hr =>
    have := kk (wordsL.contains (d :: s))
    refine ⟨?_, ?_, fun _ => rfl⟩ <;> simp only [hk] <;> omega
  | sign => exact ⟨by simp only; omega, by simp only; omega, fun _ => rfl⟩
theorem contains_two {c : UInt8} (h : twos.contains c = true) : [c, c] ∈ signsL ∧ isS c = true ∧ (ones.contains c = true ∨ c = 62) := by
  simp only [twos, List.contains_cons, List.contains_nil, Bool.or_eq_true, beq_iff_eq, Bool.or_false] at h
  rcases h with rfl | rfl | rfl | rfl | rfl <;> decide
theorem ones_all : ∀ c ∈ ones, [c] ∈ signsL ∧ isS c = true ∧ ((c == 60 || c == 61 || c == 38 || c == 124) = twos.contains c) := by decide
theorem contains_one {c : UInt8} (h : ones.contains c = true) : [c] ∈ signsL ∧ isS c = true ∧ ((c == 60 || c == 61 || c == 38 || c == 124) = twos.contains c) := ones_all c (by simpa using h)
theorem goB_two {c d : UInt8} {n p : Int} : goB ⟨4, [c, c], n, p⟩ d = false := by simp [goB]
theorem goB_one {c d : UInt8} {n p : Int} (h : ones.contains c = true) : goB ⟨4, [c], n, p⟩ d = (twos.contains c && c == d) := by
  have h3 := (contains_one h).2.2
  have e : goB ⟨4, [c], n, p⟩ d = (decide ([c] = [d]) && (d == 60 || d == 61 || d == 38 || d == 124)) := rfl
  rw [e]
  by_cases hcd : c = d
  · subst hcd
    rw [h3]; simp
  · simp [hcd]
theorem signs_cases {w : List UInt8} (h : w ∈ signsL) : (∃ c, w = [c, c] ∧ twos.contains c = true) ∨ (∃ c, w = [c] ∧ ones.contains c = true) := by
  rw [signsL_eq, List.mem_append, List.mem_map, List.mem_map] at h
  rcases h with ⟨c, h, rfl⟩ | ⟨c, h, rfl⟩
  · exact .inl ⟨c, rfl, by simpa using h⟩
  · exact .inr ⟨c, rfl, by simpa using h⟩
theorem of_fst {s r : List UInt8} {t : Tok} (h : Fst s t r) : firstS s = (t, 0) := by
  cases h with
  | num ds r n h0 hd hn hr =>
    cases ds with
    | nil => exact absurd rfl h0
    | cons d ds =>
      have hd1 : isD d = true := by simp only [List.all_cons, Bool.and_eq_true] at hd; exact hd.1
      rw [List.cons_append, firstS_num hd1, ← List.cons_append, takeWhile_app isD _ _ hd hr]
      simp only [numTok, hn]
  | byte c r h => rw [firstS_quote]; simp only [byteS, h, if_true]; rfl
  | name c s r k hc hs hl hk hr =>
    have hall : (c :: s).all isN = true := by simp only [List.all_cons, alph_isN hc, hs, Bool.and_self]
    have ht := takeWhile_app isN (c :: s) r hall hr
    rw [List.cons_append] at ht ⊢
    rw [firstS_name hc, ht]
    have : ¬ 20 < (c :: s).length := by omega
    simp only [nameS, this, if_false, hk]
    split <;> rfl
  | sign w r hw hr =>
    rcases signs_cases hw with ⟨c, rfl, h2⟩ | ⟨c, rfl, h1⟩
    · obtain ⟨_, hs, _⟩ := contains_two h2
      show firstS (c :: (c :: r)) = _
      rw [firstS_sign hs, signS_eq]
      have : again c (c :: r) = true := by simp [again]
      rw [h2, this]; rfl
    · obtain ⟨_, hs, _⟩ := contains_one h1
      show firstS (c :: r) = _
      rw [firstS_sign hs, signS_eq]
      have : (twos.contains c && again c r) = false := by
        cases r with
        | nil => simp [again]
        | cons d r' =>
          have := hr d r' rfl
          rw [goB_one h1] at this
          simp only [again]
          rw [← this]
          congr 1
          rw [Bool.eq_iff_iff]; simp only [beq_iff_eq]; exact eq_comm
      rw [this, h1]; rfl
theorem fst_of {s : List UInt8} {t : Tok} (hs : s ≠ []) (h : firstS s = (t, 0)) : ∃ r, Fst s t r := by
  cases s with
  | nil => exact absurd rfl hs
  | cons c r =>
    rcases cases_hd c with hc | rfl | hc | hc
    · rw [firstS_num hc] at h
      obtain ⟨r', e, hr', _⟩ := takeWhile_split isD (c :: r)
      have h0 : (c :: r).takeWhile isD ≠ [] := by simp [List.takeWhile, hc]
      have hall := all_tw isD (c :: r)
      generalize (c :: r).takeWhile isD = ds at *
      simp only [numTok] at h
      split at h
      · rename_i n hn
        simp only [Prod.mk.injEq, and_true] at h
        subst h
        exact ⟨r', e ▸ .num ds r' n h0 hall hn hr'⟩
      · simp at h
    · rw [firstS_quote] at h
      match r, h with
      | [], h => simp [byteS] at h
      | [_], h => simp [byteS] at h
      | c :: d :: r', h =>
        simp only [byteS] at h
        split at h
        · rename_i hb
          simp only [Prod.mk.injEq, and_true] at h
          subst h
          have hd : d = 39 := by
            have : decide ((d.toNat : Int) = 39) = true := by
              simp only [byteOk, Bool.and_eq_true] at hb
              exact hb.1.1.1.1
            rw [u8_39] at this
            simpa using this
          subst hd
          exact ⟨r', .byte c r' hb⟩
        · simp at h
    · rw [firstS_name hc] at h
      obtain ⟨r', e, hr', _⟩ := takeWhile_split isN (c :: r)
      have hall := all_tw isN (c :: r)
      have hcons : (c :: r).takeWhile isN = c :: r.takeWhile isN := by simp only [List.takeWhile, alph_isN hc]
      rw [hcons] at h e hall
      generalize r.takeWhile isN = ss at *
      simp only [List.all_cons, Bool.and_eq_true] at hall
      simp only [nameS] at h
      by_cases hl : 20 < (c :: ss).length
      · rw [if_pos hl] at h; simp at h
      · rw [if_neg hl] at h
        refine ⟨r', ?_⟩
        rw [e]
        cases hw : wordsL.contains (c :: ss) with
        | true =>
          rw [hw, if_pos rfl] at h
          simp only [Prod.mk.injEq, and_true] at h
          subst h
          exact .name c ss r' 3 hc hall.2 (by omega) (by rw [hw]; rfl) hr'
        | false =>
          rw [hw] at h
          simp only [Bool.false_eq_true, if_false, Prod.mk.injEq, and_true] at h
          subst h
          exact .name c ss r' 1 hc hall.2 (by omega) (by rw [hw]; rfl) hr'
    · rw [firstS_sign hc, signS_eq] at h
      cases h2 : (twos.contains c && again c r) with
      | true =>
        rw [h2, if_pos rfl] at h
        simp only [Prod.mk.injEq, and_true] at h
        subst h
        simp only [Bool.and_eq_true] at h2
        cases r with
        | nil => simp [again] at h2
        | cons d r' =>
          have : d = c := by simpa [again] using h2.2
          subst this
          exact ⟨r', .sign [d, d] r' (contains_two h2.1).1 fun _ _ _ => goB_two⟩
      | false =>
        rw [h2] at h
        simp only [Bool.false_eq_true, if_false] at h
        cases h1 : ones.contains c with
        | true =>
          rw [h1, if_pos rfl] at h
          simp only [Prod.mk.injEq, and_true] at h
          subst h
          refine ⟨r, .sign [c] r (contains_one h1).1 fun d r' e => ?_⟩
          subst e
          rw [goB_one h1, ← h2]
          simp only [again]
          congr 1
          rw [Bool.eq_iff_iff]; simp only [beq_iff_eq]; exact eq_comm
        | false =>
          rw [h1] at h
          simp at h
end Go.Proofs.YtgcncdjnipfolaaDoor
namespace Go.Proofs.YtgcncdjnipfolaaDoor
inductive Bl (o : Bool) : List UInt8 → Prop where
  | nil : Bl o []
  | ws (c : UInt8) (b : List UInt8) (h : wsI c.toNat = true) (hb : Bl o b) : Bl o (c :: b)
  | com (cm b : List UInt8) (h : hasP cm [47, 47] = true) (ha : cm.all notNL = true) (hb : Bl o (10 :: b)) : Bl o (cm ++ 10 :: b)
  | last (cm : List UInt8) (ho : o = true) (h : hasP cm [47, 47] = true) (ha : cm.all notNL = true) : Bl o cm
theorem nl10 : notNL 10 = false := by decide
theorem ws10 : wsI ((10 : UInt8).toNat : Int) = true := by decide
theorem wsI_ne {c : UInt8} (h : wsI c.toNat = true) : c ≠ 47 := by intro e; subst e; revert h; decide
theorem hasP2 {s : List UInt8} (h : hasP s [47, 47] = true) : ∃ r, s = 47 :: 47 :: r := by
  have : s.take 2 = [47, 47] := of_decide_eq_true h
  match s, this with
  | a :: b :: r, this => simp at this; exact ⟨r, by rw [this.1, this.2]⟩
  | [a], this => simp at this
  | [], this => simp at this
theorem hasP2' (r : List UInt8) : hasP (47 :: 47 :: r) [47, 47] = true := by simp [hasP]
theorem hasP_app {s : List UInt8} (h : hasP s [47, 47] = true) (r : List UInt8) : hasP (s ++ r) [47, 47] = true := by
  obtain ⟨q, rfl⟩ := hasP2 h
  exact hasP2' (q ++ r)
theorem lexH_com {s : List UInt8} (h : hasP s [47, 47] = true) (i : Nat) : lexH s 0 i = lexH (s.dropWhile notNL) 0 (i + (s.takeWhile notNL).length) := by
  obtain ⟨q, rfl⟩ := hasP2 h
  have hw : wsI ((47 : UInt8).toNat : Int) = false := by decide
  have hn : notNL 47 = true := by decide
  have hl := comment_len h
  obtain ⟨r, e, _, e2⟩ := takeWhile_split notNL (47 :: 47 :: q)
  rw [← e2]
  have hd : (47 :: q).drop (((47 :: 47 :: q).takeWhile notNL).length - 1) = r := by
    have : (47 :: 47 :: q).drop ((47 :: 47 :: q).takeWhile notNL).length = r := by
      conv => lhs; arg 2; rw [e]
      simp
    rw [← this]
    obtain ⟨m, hm⟩ : ∃ m, ((47 :: 47 :: q).takeWhile notNL).length = m + 1 := ⟨_, (Nat.sub_add_cancel hl).symm⟩
    rw [hm]
    rfl
  rw [lexH, hw, if_neg (by decide), if_pos h, lexH_skip, hd]
  congr 1
  omega
theorem dropWhile_app (p : UInt8 → Bool) : ∀ (s r : List UInt8), s.all p = true → (∀ c r', r = c :: r' → p c = false) → (s ++ r).dropWhile p = r
  | [], [], _, _ => rfl
  | [], c :: r, _, h => by simp [List.dropWhile, h c r rfl]
  | c :: s, r, hs, h => by
    simp only [List.all_cons, Bool.and_eq_true] at hs
    simp only [List.cons_append, List.dropWhile, hs.1, dropWhile_app p s r hs.2 h]
theorem lexH_comm {cm r : List UInt8} (h : hasP cm [47, 47] = true) (ha : cm.all notNL = true) (hr : ∀ c r', r = c :: r' → c = 10) (i : Nat) : lexH (cm ++ r) 0 i = lexH r 0 (i + cm.length) := by
  have hr' : ∀ c r', r = c :: r' → notNL c = false := fun c r' e => by rw [hr c r' e]; exact nl10
  rw [lexH_com (hasP_app h r), takeWhile_app notNL _ _ ha hr', dropWhile_app notNL _ _ ha hr']
theorem lexH_ws {c : UInt8} (h : wsI c.toNat = true) (r : List UInt8) (i : Nat) : lexH (c :: r) 0 i = lexH r 0 (i + 1) := by
  rw [lexH, if_pos h]
theorem Bl.lex {b : List UInt8} (h : Bl false b) : ∀ (s : List UInt8) (i : Nat), lexH (b ++ s) 0 i = lexH s 0 (i + b.length) := by
  induction h with
  | nil => intro s i; simp
  | ws c b h hb ih =>
    intro s i
    rw [List.cons_append, lexH_ws h, ih, List.length_cons]
    congr 1; omega
  | com cm b h ha hb ih =>
    intro s i
    rw [List.append_assoc, lexH_comm h ha (fun c r' e => by simp at e; exact e.1.symm), ih, List.length_append]
    congr 1; omega
  | last cm ho => cases ho
theorem Bl.lex_end {o : Bool} {b : List UInt8} (h : Bl o b) : ∀ i : Nat, lexH b 0 i = .ok [] := by
  induction h with
  | nil => intro i; rfl
  | ws c b h hb ih => intro i; rw [lexH_ws h, ih]
  | com cm b h ha hb ih => intro i; rw [lexH_comm h ha (fun c r' e => by simp at e; exact e.1.symm), ih]
  | last cm ho h ha =>
    intro i
    have := lexH_comm (r := []) h ha (fun c r' e => by cases e) i
    rw [List.append_nil] at this
    rw [this]; rfl
theorem Bl.open {o : Bool} {b : List UInt8} (h : Bl o b) : Bl true b := by
  induction h with
  | nil => exact .nil
  | ws c b h hb ih => exact .ws c b h ih
  | com cm b h ha hb ih => exact .com cm b h ha ih
  | last cm ho h ha => exact .last cm rfl h ha
theorem Bl.shut {o : Bool} {b : List UInt8} (h : Bl o b) : Bl false (b ++ [10]) := by
  induction h with
  | nil => exact .ws 10 [] ws10 .nil
  | ws c b h hb ih => exact .ws c _ h ih
  | com cm b h ha hb ih => rw [List.append_assoc]; exact .com cm _ h ha ih
  | last cm ho h ha => exact .com cm [] h ha (.ws 10 [] ws10 .nil)
theorem Bl.app {o : Bool} {b b2 : List UInt8} (h : Bl false b) (h2 : Bl o b2) : Bl o (b ++ b2) := by
  induction h with
  | nil => exact h2
  | ws c b h hb ih => exact .ws c _ h ih
  | com cm b h ha hb ih => rw [List.append_assoc]; exact .com cm _ h ha ih
  | last cm ho h ha => cases ho
theorem passH_ws {c : UInt8} (h : wsI c.toNat = true) (r : List UInt8) : passH (c :: r) 0 = passH r 0 + 1 := by
  rw [passH, if_pos h]
theorem passH_comm {cm r : List UInt8} (h : hasP cm [47, 47] = true) (ha : cm.all notNL = true) (hr : ∀ c r', r = c :: r' → c = 10) : passH (cm ++ r) 0 = passH r 0 + cm.length := by
  have hr' : ∀ c r', r = c :: r' → notNL c = false := fun c r' e => by rw [hr c r' e]; exact nl10
  have h2 := hasP_app h r
  have ht := takeWhile_app notNL cm r ha hr'
  obtain ⟨q, rfl⟩ := hasP2 h
  have hw : wsI ((47 : UInt8).toNat : Int) = false := by decide
  simp only [List.cons_append] at h2 ht ⊢
  rw [passH, hw, if_neg (by decide), if_pos h2, ht, passH_skip _ _ (by simp)]
  simp only [List.length_cons, Nat.add_sub_cancel, List.drop_succ_cons]
  rw [show List.drop q.length (q ++ r) = r by simp]
  omega
theorem Bl.pass {o : Bool} {b : List UInt8} (h : Bl o b) : passH b 0 = b.length := by
  induction h with
  | nil => rfl
  | ws c b h hb ih => rw [passH_ws h, ih, List.length_cons]
  | com cm b h ha hb ih =>
    rw [passH_comm h ha (fun c r' e => by simp at e; exact e.1.symm), ih, List.length_append]; omega
  | last cm ho h ha =>
    have := passH_comm (r := []) h ha (fun c r' e => by cases e)
    rw [List.append_nil] at this
    rw [this]; simp [passH]
structure Tk (s : List UInt8) (t : Tok) (r : List UInt8) : Prop where
  fst : Fst s t r
  nc : hasP s [47, 47] = false
structure Bad (s : List UInt8) (e : Int) : Prop where
  ne : s ≠ []
  ws : ∀ c r, s = c :: r → wsI c.toNat = false
  nc : hasP s [47, 47] = false
  fst : (firstS s).2 = e
  e0 : e ≠ 0
theorem isN_ws {c : UInt8} (h : isN c = true) : wsI c.toNat = false := by
  cases e : wsI c.toNat with
  | false => rfl
  | true => simp [wsI, isN, inI, alphI, digI] at e h; omega
theorem signs_ws : ∀ w ∈ signsL, ∀ c ∈ w.head?, wsI (c.toNat : Int) = false := by decide
theorem Fst.ws {s r : List UInt8} {t : Tok} (h : Fst s t r) : ∀ c r', t.text = c :: r' → wsI c.toNat = false := by
  intro c r' e
  cases h with
  | num ds r n h0 hd hn hr =>
    simp only at e; subst e
    simp only [List.all_cons, Bool.and_eq_true] at hd
    exact isN_ws (dig_isN hd.1)
  | byte d r h => simp only [List.cons.injEq] at e; rw [← e.1]; decide
  | name d s r k hc => simp only [List.cons.injEq] at e; rw [← e.1]; exact isN_ws (alph_isN hc)
  | sign w r hw => simp only at e; subst e; exact signs_ws _ hw c (by simp)
theorem Tk.split {s r : List UInt8} {t : Tok} (h : Tk s t r) : s = t.text ++ r := h.fst.split
theorem Tk.pos_len {s r : List UInt8} {t : Tok} (h : Tk s t r) : 0 < t.text.length := List.length_pos_iff.2 h.fst.ne
theorem lexH_tok {s r : List UInt8} {t : Tok} (h : Tk s t r) (i : Nat) : lexH s 0 i = (lexH r 0 (i + t.text.length)).map ({ t with pos := i } :: ·) := by
  have hs := h.split
  have hne := h.fst.ne
  have hws := h.fst.ws
  have hf := of_fst h.fst
  have hp := h.nc
  obtain ⟨k, tx, n, p⟩ := t
  cases tx with
  | nil => exact absurd rfl hne
  | cons c tx =>
    simp only [List.cons_append] at hs
    subst hs
    rw [lexH, hws c tx rfl, if_neg (by decide), hp, if_neg (by decide), hf, if_pos rfl]
    simp only [List.length_cons, Nat.add_sub_cancel]
    rw [lexH_skip, show List.drop tx.length (tx ++ r) = r by simp]
    congr 2
    omega
theorem lexH_bad {s : List UInt8} {e : Int} (h : Bad s e) (i : Nat) : lexH s 0 i = .error (i, e) := by
  obtain ⟨h1, h2, h3, h4, h5⟩ := h
  cases s with
  | nil => exact absurd rfl h1
  | cons c r => rw [lexH, h2 c r rfl, if_neg (by decide), h3, if_neg (by decide), h4, if_neg h5]
inductive Big : List UInt8 → Nat → Except (Nat × Int) (List Tok) → Prop where
  | done (b : List UInt8) (i : Nat) (h : Bl true b) : Big b i (.ok [])
  | tok (b s r : List UInt8) (t : Tok) (i : Nat) (x : Except (Nat × Int) (List Tok)) (h : Bl false b) (ht : Tk s t r) (hx : Big r (i + b.length + t.text.length) x) : Big (b ++ s) i (x.map ({ t with pos := ((i + b.length : Nat) : Int) } :: ·))
  | bad (b s : List UInt8) (i : Nat) (e : Int) (h : Bl false b) (hb : Bad s e) : Big (b ++ s) i (.error (i + b.length, e))
theorem Big.val {s : List UInt8} {i : Nat} {x : Except (Nat × Int) (List Tok)} (h : Big s i x) : lexH s 0 i = x := by
  induction h with
  | done b i h => exact h.lex_end i
  | tok b s r t i x h ht hx ih => rw [h.lex, lexH_tok ht, ih]
  | bad b s i e h hb => rw [h.lex, lexH_bad hb]
theorem Big.front {b s : List UInt8} {i : Nat} {x : Except (Nat × Int) (List Tok)} (hb : Bl false b) (h : Big s (i + b.length) x) : Big (b ++ s) i x := by
  cases h with
  | done b2 _ h => exact .done _ _ (hb.app h)
  | tok b2 s r t _ x h ht hx =>
    rw [← List.append_assoc]
    have := Big.tok (b ++ b2) s r t i x (hb.app h) ht (by rw [List.length_append, ← Nat.add_assoc]; exact hx)
    rwa [List.length_append, ← Nat.add_assoc] at this
  | bad b2 s _ e h h2 =>
    rw [← List.append_assoc]
    have := Big.bad (b ++ b2) s i e (hb.app h) h2
    rwa [List.length_append, ← Nat.add_assoc] at this
theorem Tk.front {s r : List UInt8} {t : Tok} {i : Nat} {x : Except (Nat × Int) (List Tok)} (ht : Tk s t r) (hx : Big r (i + t.text.length) x) : Big s i (x.map ({ t with pos := i } :: ·)) :=
  Big.tok [] s r t i x .nil ht hx
theorem Big.all : ∀ (n : Nat) (s : List UInt8) (i : Nat), s.length ≤ n → Big s i (lexH s 0 i)
  | n, [], i, _ => .done [] i .nil
  | 0, c :: s, i, h => by simp at h
  | n + 1, c :: s, i, h => by
    by_cases hw : wsI c.toNat = true
    · rw [lexH_ws hw]
      exact Big.front (b := [c]) (.ws c [] hw .nil) (Big.all n s (i + 1) (by simpa using h))
    · have hw' : wsI c.toNat = false := by simpa using hw
      by_cases hc : hasP (c :: s) [47, 47] = true
      · obtain ⟨r, e, hr, er⟩ := takeWhile_split notNL (c :: s)
        have hl := comment_len hc
        have ha := all_tw notNL (c :: s)
        have hcm : hasP ((c :: s).takeWhile notNL) [47, 47] = true := by
          obtain ⟨q, e2⟩ := hasP2 hc
          rw [e2]
          have hn : notNL 47 = true := by decide
          simp only [List.takeWhile, hn]
          exact hasP2' _
        generalize (c :: s).takeWhile notNL = cm at *
        have hlen : r.length ≤ n := by
          have := congrArg List.length e
          rw [List.length_append] at this
          simp only [List.length_cons] at this h
          omega
        cases r with
        | nil =>
          rw [List.append_nil] at e
          rw [e]
          have hb : Bl true cm := .last cm rfl hcm ha
          rw [hb.lex_end i]
          exact .done _ _ hb
        | cons d r' =>
          have hd : d = 10 := by
            have := hr d r' rfl
            by_cases e : d = 10
            · exact e
            · exfalso
              have h2 : ¬ ((d.toNat : Int) = 10) := fun h3 => e (UInt8.toNat_inj.1 (by simpa using Int.ofNat.inj h3))
              simp [notNL, h2] at this
          subst hd
          have hb : Bl false (cm ++ [10]) := .com cm [] hcm ha (.ws 10 [] ws10 .nil)
          have e3 : cm ++ 10 :: r' = (cm ++ [10]) ++ r' := by simp
          rw [e, e3, hb.lex]
          exact Big.front hb (Big.all n r' _ (by simp only [List.length_cons] at hlen; omega))
      · have hc' : hasP (c :: s) [47, 47] = false := by simpa using hc
        by_cases he : (firstS (c :: s)).2 = 0
        · obtain ⟨r, hf⟩ := fst_of (s := c :: s) (t := (firstS (c :: s)).1) (by simp) (by rw [← he])
          have ht : Tk (c :: s) (firstS (c :: s)).1 r := ⟨hf, hc'⟩
          rw [lexH_tok ht]
          refine ht.front (Big.all n r _ ?_)
          have e := congrArg List.length ht.split
          have := ht.pos_len
          rw [List.length_append] at e
          simp only [List.length_cons] at e h
          omega
        · have hb : Bad (c :: s) (firstS (c :: s)).2 := ⟨by simp, fun c' r e => by cases e; exact hw', hc', rfl, he⟩
          rw [lexH_bad hb]
          exact Big.bad [] _ i _ .nil hb
theorem big (s : List UInt8) (i : Nat) : Big s i (lexH s 0 i) := Big.all s.length s i (Nat.le_refl _)
end Go.Proofs.YtgcncdjnipfolaaDoor
namespace Go.Proofs.YtgcncdjnipfolaaDoor
theorem map_ok {ε α : Type} {x : Except ε (List α)} {a : α} {l : List α} (h : x.map (a :: ·) = .ok l) : ∃ l', x = .ok l' ∧ l = a :: l' := by
  cases x with
  | error e => cases h
  | ok l' => exact ⟨l', rfl, by cases h; rfl⟩
theorem map_err {ε α : Type} {x : Except ε (List α)} {a : α} {e : ε} (h : x.map (a :: ·) = .error e) : x = .error e := by
  cases x with
  | error e' => cases h; rfl
  | ok l' => cases h
/-! ### names -/
theorem alph_nc {c : UInt8} (h : alphI c.toNat = true) (r : List UInt8) : hasP (c :: r) [47, 47] = false := by
  cases e : hasP (c :: r) [47, 47] with
  | false => rfl
  | true =>
    obtain ⟨q, e2⟩ := hasP2 e
    cases e2
    exact absurd h (by decide)
theorem names_iff (s : List UInt8) : lexH s 0 0 = .ok [⟨1, s, 0, 0⟩] ↔ nameB s = true := by
  constructor
  · intro h
    have hb := big s 0
    rw [h] at hb
    generalize hx : (Except.ok [⟨1, s, 0, 0⟩] : Except (Nat × Int) (List Tok)) = x at hb
    generalize hi : (0 : Nat) = i at hb
    cases hb with
    | done b i h => cases hx
    | tok b s' r t i x hbl ht hxx =>
      obtain ⟨l', _, e⟩ := map_ok hx.symm
      simp only [List.cons.injEq, Tok.mk.injEq] at e
      obtain ⟨⟨e1, e2, e3, e4⟩, _⟩ := e
      have hb0 : b = [] := by cases b with | nil => rfl | cons c b => simp only [List.length_cons] at e4; omega
      subst hb0
      have hsp := ht.split
      rw [List.nil_append] at e2
      have hr : r = [] := by
        have := congrArg List.length hsp
        rw [List.length_append, ← e2] at this
        exact List.eq_nil_of_length_eq_zero (by omega)
      have hf := ht.fst
      rw [List.nil_append]
      subst hr
      clear ht hxx
      cases hf with
      | num => cases e1
      | byte => cases e1
      | sign => cases e1
      | name c ss _ k hc hs hl hk hr =>
        rw [List.append_nil]
        simp only at e1
        have hw : wordsL.contains (c :: ss) = false := by
          cases hh : wordsL.contains (c :: ss) with
          | false => rfl
          | true => rw [hh] at hk; rw [hk] at e1; exact absurd e1 (by decide)
        have hall : (c :: ss).takeWhile isN = c :: ss := by
          have := takeWhile_app isN (c :: ss) [] (by simp only [List.all_cons, alph_isN hc, hs, Bool.and_self]) (fun _ _ e => by cases e)
          rwa [List.append_nil] at this
        have hl' : (c :: ss).length ≤ 20 := hl
        simp only [nameB, hc, hw, hall, hl', decide_true, Bool.not_false, Bool.and_self]
    | bad => cases hx
  · intro h
    cases s with
    | nil => cases h
    | cons c r =>
      simp only [nameB, Bool.and_eq_true, decide_eq_true_eq, Bool.not_eq_true'] at h
      obtain ⟨h1, h2, h3, h4⟩ := h
      have hall : r.all isN = true := by
        have := all_tw isN (c :: r)
        rw [h3, List.all_cons, Bool.and_eq_true] at this
        exact this.2
      have ht : Tk (c :: r ++ []) ⟨1, c :: r, 0, 0⟩ [] := ⟨.name c r [] 1 h2 hall h1 (by rw [h4]; rfl) (fun _ _ e => by cases e), by rw [List.append_nil]; exact alph_nc h2 r⟩
      have := lexH_tok ht 0
      rw [List.append_nil] at this
      rw [this]; rfl
theorem Tk.drop {s r : List UInt8} {t : Tok} (h : Tk s t r) : s.drop t.text.length = r := by rw [h.split]; simp
/-! ### tokens, read again -/
theorem Tk.lets {s r : List UInt8} {t : Tok} (h : Tk s t r) : lets t r := by
  intro c r' e
  have h1 := h.fst.go c r' e
  subst e
  simp only [stopB, h1, Bool.not_false, Bool.true_and, Bool.not_eq_true', Bool.and_eq_false_iff, decide_eq_false_iff_not, beq_eq_false_iff_ne]
  by_cases h47 : t.text = [47]
  · right
    intro ec; subst ec
    have := h.nc
    rw [h.split, h47] at this
    simp only [List.cons_append, List.nil_append] at this
    rw [hasP2'] at this
    cases this
  · exact .inl h47
theorem signs_com : ∀ w ∈ signsL, w.take 2 ≠ [47, 47] ∧ (w.take 1 = [47] → w = [47]) := by decide
theorem Tk.swap {s r r2 : List UInt8} {t : Tok} (h : Tk s t r) (hr : Proofs.YtgcncdjnipfolaaDoor.lets t r2) : Tk (t.text ++ r2) t r2 := by
  have hgo : ∀ c r', r2 = c :: r' → goB t c = false := fun c r' e => by
    have := hr c r' e
    simp only [stopB, Bool.and_eq_true, Bool.not_eq_true'] at this
    exact this.1
  refine ⟨h.fst.swap hgo, ?_⟩
  cases e : hasP (t.text ++ r2) [47, 47] with
  | false => rfl
  | true =>
    exfalso
    obtain ⟨q, e2⟩ := hasP2 e
    have hne := h.fst.ne
    cases htx : t.text with
    | nil => exact hne htx
    | cons a tx =>
      rw [htx] at e2
      simp only [List.cons_append, List.cons.injEq] at e2
      obtain ⟨rfl, e3⟩ := e2
      have h47 : t.text = [47] := by
        have hf := h.fst
        cases hf with
        | num ds r n h0 hd hn hr =>
          simp only at htx; subst htx
          simp only [List.all_cons, Bool.and_eq_true] at hd
          exact absurd hd.1 (by decide)
        | byte c r h => simp at htx
        | name c s r k hc => simp only [List.cons.injEq] at htx; rw [htx.1] at hc; exact absurd hc (by decide)
        | sign w r hw hr =>
          simp only at htx ⊢
          exact (signs_com w hw).2 (by rw [htx]; simp)
      rw [htx] at h47
      cases h47
      simp only [List.nil_append] at e3
      have := hr 47 q e3
      simp [stopB, htx] at this
theorem goB_blank (t : Tok) (hk : t.kind = 4 → t.text ∈ signsL) {c : UInt8} (hc : wsI c.toNat = true) : stopB t c = true := by
  have h1 : isN c = false := by
    cases e : isN c with
    | false => rfl
    | true => rw [isN_ws e] at hc; cases hc
  have h2 : isD c = false := by
    cases e : isD c with
    | false => rfl
    | true => rw [dig_isN e] at h1; cases h1
  have h47 := wsI_ne hc
  have h3 : (c == 60 || c == 61 || c == 38 || c == 124) = false := by
    cases e : (c == 60 || c == 61 || c == 38 || c == 124) with
    | false => rfl
    | true =>
      simp only [Bool.or_eq_true, beq_iff_eq] at e
      rcases e with ((rfl | rfl) | rfl) | rfl <;> exact absurd hc (by decide)
  have h4 : (c == 47) = false := by simp [h47]
  simp only [stopB, goB, h1, h2, h3, h4, Bool.false_and, Bool.and_false, Bool.not_false, Bool.and_true]
  split
  · rfl
  · split <;> rfl
theorem lets_blank {s r : List UInt8} {t : Tok} (h : Tk s t r) {c : UInt8} (hc : wsI c.toNat = true) (q : List UInt8) : Proofs.YtgcncdjnipfolaaDoor.lets t (c :: q) := by
  intro d q' e
  cases e
  refine goB_blank t (fun hk => ?_) hc
  have hf := h.fst
  cases hf with
  | num => cases hk
  | byte => cases hk
  | name d s r k hcc hs hl hkk hr => simp only at hk; have := kk (wordsL.contains (d :: s)); rw [← hkk, hk] at this; rcases this with h | h <;> cases h
  | sign w r hw hr => exact hw
def flat (sep : List UInt8) : List Tok → List UInt8
  | [] => []
  | t :: l => t.text ++ (sep ++ flat sep l)
/-! ### texts joined -/
theorem lets_app {s r : List UInt8} {t : Tok} (h : Tk s t r) (q : List UInt8) : Proofs.YtgcncdjnipfolaaDoor.lets t (r ++ 10 :: q) := by
  cases r with
  | nil => exact lets_blank h ws10 q
  | cons c r => exact lets_hd h.lets fun c' r' e => by cases e; exact ⟨r, rfl⟩
theorem joins_ok {a : List UInt8} {i : Nat} {x : Except (Nat × Int) (List Tok)} (h : Big a i x) (q : List UInt8) : ∀ l, x = .ok l → lexH (a ++ 10 :: q) 0 i = (lexH q 0 (i + a.length + 1)).map (l ++ ·) := by
  induction h with
  | done b i h =>
    intro l e
    cases e
    have := h.shut.lex q i
    rw [List.append_assoc] at this
    simp only [List.cons_append, List.nil_append, List.length_append, List.length_cons, List.length_nil] at this
    rw [this]
    cases lexH q 0 (i + (b.length + (0 + 1))) <;> simp [Except.map, Nat.add_assoc, *] <;> rfl
  | bad => intro l e; cases e
  | tok b s' r t i x hbl ht hxx ih =>
    intro l e
    obtain ⟨l', e1, rfl⟩ := map_ok e
    have hsp := ht.split
    have hlen := congrArg List.length hsp
    rw [List.length_append] at hlen
    rw [List.append_assoc, hbl.lex, hsp, List.append_assoc, lexH_tok (ht.swap (lets_app ht q)), ih l' e1]
    rw [show i + b.length + t.text.length + r.length + 1 = i + (b ++ (t.text ++ r)).length + 1 by simp only [List.length_append]; omega]
    cases lexH q 0 (i + (b ++ (t.text ++ r)).length + 1) <;> rfl
end Go.Proofs.YtgcncdjnipfolaaDoor

namespace Go.Proofs.YtgcncdjnipfolaaDoor
open Go.Al
def Tok.z (t : Tok) : Tok := { t with pos := 0 }
@[simp] theorem Tok.z_kind (t : Tok) : t.z.kind = t.kind := rfl
@[simp] theorem Tok.z_text (t : Tok) : t.z.text = t.text := rfl
@[simp] theorem Tok.z_num (t : Tok) : t.z.num = t.num := rfl
theorem Tok.z_z (t : Tok) : t.z.z = t.z := rfl
section
variable (T : List Tok)
theorem peek_z (n : Nat) : peekI (T.map Tok.z) n = peekI T n := by
  unfold peekI
  rw [List.getElem?_map]
  cases T[n]? <;> rfl
theorem kind_z (n : Nat) : kindI (T.map Tok.z) n = kindI T n := by
  unfold kindI
  rw [List.getElem?_map]
  cases T[n]? <;> rfl
theorem must_z (s : Str) (n : Nat) : mustI (T.map Tok.z) s n = mustI T s n := by
  unfold mustI
  rw [peek_z]
theorem take_z {β : Type} (k : Int) (n : Nat) (f : Tok → Nat → PR β) (hf : ∀ t n, f t.z n = f t n) : (takeI (T.map Tok.z) k n).bind f = (takeI T k n).bind f := by
  have key : takeI (T.map Tok.z) k n = (match T[n]? with | some t => if t.kind = k then .ok t.z (n + 1) else .bad n | none => .bad n) := by
    unfold takeI
    rw [List.getElem?_map]
    cases T[n]? <;> rfl
  rw [key]
  unfold takeI
  cases T[n]? with
  | none => rfl
  | some t =>
    simp only
    by_cases hk : t.kind = k
    · rw [if_pos hk, if_pos hk]; exact hf t _
    · rw [if_neg hk, if_neg hk]
theorem exprs_z (f : Nat) : (∀ n, atomI (T.map Tok.z) f n = atomI T f n) ∧ (∀ lo n, exprI (T.map Tok.z) f lo n = exprI T f lo n) ∧ (∀ lo e n, loopI (T.map Tok.z) f lo e n = loopI T f lo e n) ∧
    (∀ n, argsI (T.map Tok.z) f n = argsI T f n) ∧ (∀ acc n, arglI (T.map Tok.z) f acc n = arglI T f acc n) := by
  induction f with
  | zero => exact ⟨fun _ => by rw [atomI, atomI], fun _ _ => by rw [exprI, exprI], fun _ _ _ => by rw [loopI, loopI], fun _ => by rw [argsI, argsI], fun _ _ => by rw [arglI, arglI]⟩
  | succ f ih =>
    obtain ⟨i1, i2, i3, i4, i5⟩ := ih
    refine ⟨fun n => ?_, fun lo n => ?_, fun lo e n => ?_, fun n => ?_, fun acc n => ?_⟩
    · rw [atomI, atomI]
      simp only [peek_z, kind_z, must_z, i1, i2, i4]
      rw [take_z T 2 n _ (fun t n => rfl), take_z T 1 n _ (fun t n => rfl)]
    · rw [exprI, exprI]; simp only [i1, i3]
    · rw [loopI, loopI]; simp only [peek_z, i2, i3]
    · rw [argsI, argsI]; simp only [peek_z, i2, i5]
    · rw [arglI, arglI]; simp only [peek_z, must_z, i2, i5]
theorem exprP_z (lo n : Nat) : exprP (T.map Tok.z) lo n = exprP T lo n := by
  unfold exprP; rw [List.length_map]; exact (exprs_z T _).2.1 lo n
theorem argsP_z (n : Nat) : argsP (T.map Tok.z) n = argsP T n := by
  unfold argsP; rw [List.length_map]; exact (exprs_z T _).2.2.2.1 n
theorem roundP_z (n : Nat) : roundP (T.map Tok.z) n = roundP T n := by
  unfold roundP; simp only [must_z, exprP_z]
theorem namedP_z (n : Nat) : namedP (T.map Tok.z) n = namedP T n := by
  unfold namedP
  simp only [must_z, exprP_z, peek_z, argsP_z]
  rw [take_z T 1 n _ (fun t n => rfl)]
theorem stmts_z (f : Nat) : (∀ n, stmtI (T.map Tok.z) f n = stmtI T f n) ∧ (∀ n, bodyI (T.map Tok.z) f n = bodyI T f n) ∧ (∀ acc n, stmtsI (T.map Tok.z) f acc n = stmtsI T f acc n) := by
  induction f with
  | zero => exact ⟨fun _ => by rw [stmtI, stmtI], fun _ => by rw [bodyI, bodyI], fun _ _ => by rw [stmtsI, stmtsI]⟩
  | succ f ih =>
    obtain ⟨i1, i2, i3⟩ := ih
    refine ⟨fun n => ?_, fun n => ?_, fun acc n => ?_⟩
    · rw [stmtI, stmtI]; simp only [peek_z, roundP_z, must_z, exprP_z, i2, namedP_z]
    · rw [bodyI, bodyI]; simp only [must_z, i3]
    · rw [stmtsI, stmtsI]; simp only [peek_z, i1, i3]
theorem stmtsP_z (acc : List Sm) (n : Nat) : stmtsP (T.map Tok.z) acc n = stmtsP T acc n := by
  unfold stmtsP; rw [List.length_map]; exact (stmts_z T _).2.2 acc n
theorem nms_z (f : Nat) : ∀ acc n, nmI (T.map Tok.z) f acc n = nmI T f acc n := by
  induction f with
  | zero => intro _ _; rw [nmI, nmI]
  | succ f ih =>
    intro acc n
    rw [nmI, nmI]
    simp only [peek_z, ih]
    rw [take_z T 1 _ _ (fun t n => rfl)]
theorem namesP_z (n : Nat) : namesP (T.map Tok.z) n = namesP T n := by
  unfold namesP nmP
  simp only [List.length_map, nms_z]
  exact take_z T 1 _ _ (fun t n => rfl)
theorem locs_z (f : Nat) : ∀ acc n, locI (T.map Tok.z) f acc n = locI T f acc n := by
  induction f with
  | zero => intro _ _; rw [locI, locI]
  | succ f ih => intro acc n; rw [locI, locI]; simp only [peek_z, namesP_z, must_z, ih]
theorem locP_z (acc : List Str) (n : Nat) : locP (T.map Tok.z) acc n = locP T acc n := by
  unfold locP; rw [List.length_map]; exact locs_z T _ acc n
theorem funP_z (n : Nat) : funP (T.map Tok.z) n = funP T n := by
  unfold funP
  simp only [must_z, kind_z, namesP_z, peek_z, locP_z, stmtsP_z]
  refine PR.bind_congr rfl fun _ m _ => ?_
  exact take_z T 1 m _ (fun t n => rfl)
theorem heads_z (f : Nat) : ∀ vs as' n, headI (T.map Tok.z) f vs as' n = headI T f vs as' n := by
  induction f with
  | zero => intro _ _ _; rw [headI, headI]
  | succ f ih =>
    intro vs as' n
    rw [headI, headI]
    simp only [peek_z, namesP_z, must_z, ih]
    split
    · rfl
    split
    · rw [take_z T 1 _ _ (fun t n => ?_)]
      · refine PR.bind_congr rfl fun t m _ => PR.bind_congr rfl fun _ m _ => ?_
        exact take_z T 2 _ _ (fun t n => rfl)
      · rfl
    · rfl
theorem headP_z (vs : List Str) (as' : List Ar) (n : Nat) : headP (T.map Tok.z) vs as' n = headP T vs as' n := by
  unfold headP; rw [List.length_map]; exact heads_z T _ vs as' n
theorem funs_z (f : Nat) : ∀ acc n, funsI (T.map Tok.z) f acc n = funsI T f acc n := by
  induction f with
  | zero => intro _ _; rw [funsI, funsI]
  | succ f ih => intro acc n; rw [funsI, funsI]; simp only [List.length_map, funP_z, ih]
theorem funsP_z (acc : List Fu) (n : Nat) : funsP (T.map Tok.z) acc n = funsP T acc n := by
  unfold funsP; rw [List.length_map]; exact funs_z T _ acc n
theorem progP_z (n : Nat) : progP (T.map Tok.z) n = progP T n := by
  unfold progP; simp only [headP_z, funP_z, funsP_z]
end
end Go.Proofs.YtgcncdjnipfolaaDoor

namespace Go.Proofs.YtgcncdjnipfolaaDoor
open Go.Al
def zz (x : Except (Nat × Int) (List Tok)) : Except (Nat × Int) (List Tok) := x.map (List.map Tok.z)
def RdC (s : Str) (l : List Tok) : Prop := ∀ r i, zz (lexH (s ++ r) 0 i) = pre l (zz (lexH r 0 (i + s.length)))
def cl (r : Str) : Prop := ∀ c r', r = c :: r' → isN c = false
def RdO (s : Str) (l : List Tok) : Prop := ∀ r i, cl r → zz (lexH (s ++ r) 0 i) = pre l (zz (lexH r 0 (i + s.length)))
theorem pre_pre (l m : List Tok) (x : Except (Nat × Int) (List Tok)) : pre l (pre m x) = pre (l ++ m) x := by cases x <;> simp [pre, Except.map]
theorem cl_cons {c : UInt8} (h : isN c = false) (r : Str) : cl (c :: r) := fun d r' e => by cases e; exact h
theorem cl_nil : cl [] := fun _ _ e => by cases e
theorem cl_app {s r : Str} (h : cl s) (hr : cl r) : cl (s ++ r) := by
  cases s with
  | nil => exact hr
  | cons c s => exact cl_cons (h c s rfl) _
theorem cl_app' {s r : Str} (h : cl s) (hs : s ≠ []) : cl (s ++ r) := by
  cases s with
  | nil => exact absurd rfl hs
  | cons c s => exact cl_cons (h c s rfl) _
theorem RdC.o {s : Str} {l : List Tok} (h : RdC s l) : RdO s l := fun r i _ => h r i
theorem RdC.nil : RdC [] [] := fun r i => by rw [List.nil_append, pre_nil]; rfl
theorem RdC.app {s s2 : Str} {l l2 : List Tok} (h : RdC s l) (h2 : RdC s2 l2) : RdC (s ++ s2) (l ++ l2) := fun r i => by
  rw [List.append_assoc, h, h2, pre_pre, List.length_append, Nat.add_assoc]
theorem RdC.appO {s s2 : Str} {l l2 : List Tok} (h : RdC s l) (h2 : RdO s2 l2) : RdO (s ++ s2) (l ++ l2) := fun r i hr => by
  rw [List.append_assoc, h, h2 r _ hr, pre_pre, List.length_append, Nat.add_assoc]
theorem RdO.app {s s2 : Str} {l l2 : List Tok} (h : RdO s l) (h2 : RdO s2 l2) (hc : cl s2) : RdO (s ++ s2) (l ++ l2) := fun r i hr => by
  rw [List.append_assoc, h _ _ (cl_app hc hr), h2 r _ hr, pre_pre, List.length_append, Nat.add_assoc]
theorem RdO.appC {s s2 : Str} {l l2 : List Tok} (h : RdO s l) (h2 : RdC s2 l2) (hc : cl s2) (hne : s2 ≠ []) : RdC (s ++ s2) (l ++ l2) := fun r i => by
  rw [List.append_assoc, h _ _ (cl_app' hc hne), h2, pre_pre, List.length_append, Nat.add_assoc]
theorem zz_map (t : Tok) (x : Except (Nat × Int) (List Tok)) : zz (x.map (t :: ·)) = pre [t.z] (zz x) := by cases x <;> rfl
theorem rd_tok {s r : Str} {t : Tok} (h : Tk s t r) (i : Nat) : zz (lexH s 0 i) = pre [t.z] (zz (lexH r 0 (i + t.text.length))) := by
  rw [lexH_tok h, zz_map]; rfl
theorem RdC.ws {c : UInt8} (h : wsI c.toNat = true) : RdC [c] [] := fun r i => by
  rw [List.cons_append, List.nil_append, lexH_ws h, pre_nil]; rfl
def tN (s : Str) : Tok := ⟨1, s, 0, 0⟩
def tS (s : Str) : Tok := ⟨4, s, 0, 0⟩
def tW (s : Str) : Tok := ⟨3, s, 0, 0⟩
def tD (n : Int) : Tok := ⟨2, Lib.decDigits n.toNat, n, 0⟩
theorem RdC.one {c : UInt8} (h : ones.contains c = true) (h2 : twos.contains c = false) (h3 : c ≠ 47) : RdC [c] [tS [c]] := fun r i => by
  have ht : Tk ([c] ++ r) (tS [c]) r := by
    refine ⟨.sign [c] r (contains_one h).1 fun d r' e => ?_, ?_⟩
    · rw [goB_one h, h2]; rfl
    · cases e : hasP ([c] ++ r) [47, 47] with
      | false => rfl
      | true =>
        obtain ⟨q, e2⟩ := hasP2 e
        simp only [List.cons_append, List.nil_append, List.cons.injEq] at e2
        exact absurd e2.1 h3
  exact rd_tok ht i
theorem RdC.sgn {w : Str} (h : w ∈ signsL) : RdC (w ++ [32]) [tS w] := fun r i => by
  have ht : Tk (w ++ (32 :: r)) (tS w) (32 :: r) := by
    refine ⟨.sign w _ h fun d r' e => ?_, ?_⟩
    · cases e
      simp [goB]
    · have key : ∀ w ∈ signsL, ∀ r, hasP (w ++ 32 :: r) [47, 47] = false := by
        intro w hw r
        simp only [signsL, List.mem_cons, List.not_mem_nil, or_false] at hw
        rcases hw with rfl | rfl | rfl | rfl | rfl | rfl | rfl | rfl | rfl | rfl | rfl | rfl | rfl | rfl | rfl | rfl | rfl | rfl | rfl | rfl | rfl | rfl | rfl | rfl <;> simp [hasP]
      exact key w h r
  have hw : wsI ((32 : UInt8).toNat : Int) = true := by decide
  rw [List.append_assoc, List.cons_append, List.nil_append, rd_tok ht i, lexH_ws hw, List.length_append]
  rfl
theorem RdO.name {s : Str} (h : nameB s = true) : RdO s [tN s] := by
  intro r i hr
  cases s with
  | nil => cases h
  | cons c s =>
    simp only [nameB, Bool.and_eq_true, decide_eq_true_eq, Bool.not_eq_true'] at h
    obtain ⟨h1, h2, h3, h4⟩ := h
    have hall : s.all isN = true := by
      have := all_tw isN (c :: s)
      rw [h3, List.all_cons, Bool.and_eq_true] at this
      exact this.2
    have ht : Tk (c :: s ++ r) (tN (c :: s)) r := ⟨.name c s r 1 h2 hall h1 (by rw [h4]; rfl) hr, alph_nc h2 _⟩
    exact rd_tok ht i
theorem RdO.word {s : Str} (h : s ∈ wordsL) : RdO s [tW s] := by
  intro r i hr
  have key : ∀ s ∈ wordsL, ∃ c t, s = c :: t ∧ alphI (c.toNat : Int) = true ∧ t.all isN = true ∧ (c :: t).length ≤ 20 ∧ wordsL.contains (c :: t) = true := by
    intro s hs
    simp only [wordsL, List.mem_cons, List.not_mem_nil, or_false] at hs
    rcases hs with rfl | rfl | rfl | rfl | rfl | rfl | rfl | rfl | rfl | rfl <;> exact ⟨_, _, rfl, by decide, by decide, by decide, by decide⟩
  obtain ⟨c, t, rfl, h1, h2, h3, h4⟩ := key s h
  have ht : Tk (c :: t ++ r) (tW (c :: t)) r := ⟨.name c t r 3 h1 h2 h3 (by rw [h4]; rfl) hr, alph_nc h1 _⟩
  exact rd_tok ht i
theorem numS_app : ∀ (a b : Str) (n : Int), numS n (a ++ b) = (numS n a).bind fun m => numS m b
  | [], b, n => by simp [numS]
  | c :: a, b, n => by
    simp only [List.cons_append, numS]
    split
    · rfl
    · exact numS_app a b _
theorem dig_val {d : Nat} (h : d < 10) : ((UInt8.ofNat (48 + d)).toNat : Int) = 48 + d := by
  have : (UInt8.ofNat (48 + d)).toNat = 48 + d := by simp; omega
  rw [this]; omega
theorem dec_num (n : Nat) : n < 4294967296 → numS 0 (Lib.decDigits n) = some (n : Int) := by
  induction n using Nat.strongRecOn with
  | _ n ih =>
    intro hn
    rw [Lib.decDigits]
    split
    · rename_i h
      have hv := dig_val h
      simp only [numS, hv]
      rw [if_neg (by omega)]
      congr 1; omega
    · rename_i h
      have hv := dig_val (d := n % 10) (Nat.mod_lt _ (by omega))
      rw [numS_app, ih (n / 10) (by omega) (by omega)]
      simp only [Option.bind_some, numS, hv]
      rw [if_neg (by omega)]
      congr 1; omega
theorem dec_dig (n : Nat) : (Lib.decDigits n).all isD = true := by
  have one : ∀ d, d < 10 → isD (UInt8.ofNat (48 + d)) = true := fun d h => by
    have hv := dig_val h
    simp only [isD, digI, hv, Bool.and_eq_true, decide_eq_true_eq]
    omega
  induction n using Nat.strongRecOn with
  | _ n ih =>
    rw [Lib.decDigits]
    split
    · rename_i h
      rw [List.all_cons, List.all_nil, one n h]; rfl
    · rename_i h
      rw [List.all_append, ih (n / 10) (by omega), List.all_cons, List.all_nil, one _ (Nat.mod_lt _ (by omega))]; rfl
theorem dec_ne (n : Nat) : Lib.decDigits n ≠ [] := by
  rw [Lib.decDigits]
  split <;> simp
theorem RdO.num {n : Int} (h : u32R n) : RdO (Lib.decDigits n.toNat) [tD n] := by
  intro r i hr
  unfold u32R at h
  have hn := dec_num n.toNat (by omega)
  rw [Int.toNat_of_nonneg h.1] at hn
  have hall := dec_dig n.toNat
  have ht : Tk (Lib.decDigits n.toNat ++ r) (tD n) r := by
    refine ⟨.num _ r n (dec_ne _) hall hn fun c r' e => ?_, ?_⟩
    · cases hd : isD c with
      | false => rfl
      | true => have := hr c r' e; rw [dig_isN hd] at this; cases this
    · cases e : hasP (Lib.decDigits n.toNat ++ r) [47, 47] with
      | false => rfl
      | true =>
        obtain ⟨q, e2⟩ := hasP2 e
        have hne := dec_ne n.toNat
        cases hd : Lib.decDigits n.toNat with
        | nil => exact absurd hd hne
        | cons c s =>
          rw [hd] at e2 hall
          simp only [List.cons_append, List.cons.injEq] at e2
          rw [e2.1] at hall
          simp only [List.all_cons, Bool.and_eq_true] at hall
          exact absurd hall.1 (by decide)
  exact rd_tok ht i
theorem RdC.two {c d : UInt8} (h : ones.contains c = true) (h2 : twos.contains c = false) (h3 : c ≠ 47) (g : ones.contains d = true) (g2 : twos.contains d = false) (g3 : d ≠ 47) : RdC [c, d] [tS [c], tS [d]] :=
  RdC.app (RdC.one h h2 h3) (RdC.one g g2 g3)
end Go.Proofs.YtgcncdjnipfolaaDoor
