/- Chapter 16, in plain Lean: the program's maps say what the judge's lists say. -/
import Derived.Test.YtnbokmbjiioooaaS16k
set_option linter.unusedSimpArgs false
set_option linter.unusedVariables false
namespace Go.Al
theorem lookT_append (s : Str) : ∀ a b : List Th, lookT (a ++ b) s = match lookT a s with | some r => some r | none => lookT b s
  | [], b => rfl
  | t :: a, b => by
    simp only [List.cons_append, lookT]
    by_cases h : s = t.name
    · simp only [h, if_true]
    · simp only [h, if_false]; exact lookT_append s a b
theorem placeN_append (s : Str) : ∀ a b : List Str, placeN (a ++ b) s = match placeN a s with | some n => some n | none => (placeN b s).map (· + a.length)
  | [], b => by simp [placeN]
  | x :: a, b => by
    simp only [List.cons_append, placeN]
    by_cases h : x = s
    · simp only [h, if_true]
    · simp only [h, if_false]
      rw [placeN_append s a b]
      cases placeN a s with
      | some n => rfl
      | none => cases placeN b s <;> simp [Nat.add_assoc]
theorem lookT_thK (k : Int) (s : Str) : ∀ (l : List Str) (i : Nat), lookT (thK k i l) s = (placeN l s).map fun n => (k, ((i + n : Nat) : Int))
  | [], i => rfl
  | x :: l, i => by
    simp only [thK, lookT, placeN]
    by_cases h : x = s
    · subst h; simp
    · have h' : ¬ s = x := fun e => h e.symm
      simp only [if_neg h, if_neg h', lookT_thK k s l (i + 1), Option.map_map]
      congr 1
      funext n
      simp only [Function.comp]
      rw [show i + 1 + n = i + (n + 1) by omega]
theorem lookT_some (s : Str) : ∀ l : List Th, (lookT l s).isSome = (l.map Th.name).contains s
  | [] => rfl
  | t :: l => by
    simp only [lookT, List.map_cons, List.contains_cons]
    by_cases h : s = t.name
    · subst h; simp
    · have : (s == t.name) = false := by simp [h]
      rw [if_neg h, this, Bool.false_or]; exact lookT_some s l
theorem stT_look (s : Str) (l : List Th) : lookT (stT l).1 s = lookT l s := by
  suffices h : ∀ n (l : List Th), l.length = n → ∀ s, lookT (stT l).1 s = lookT l s from h _ l rfl s
  intro n
  induction n with
  | zero => intro l hl s; have := List.eq_nil_of_length_eq_zero hl; subst this; rfl
  | succ n ih =>
    intro l hl s
    have hne : l ≠ [] := fun e => by subst e; simp at hl
    obtain ⟨l', t, rfl⟩ : ∃ l' t, l = l' ++ [t] := ⟨l.dropLast, l.getLast hne, (List.dropLast_concat_getLast hne).symm⟩
    have hl' : l'.length = n := by simpa using hl
    rw [stT_app, lookT_app]
    simp only [addT, ih l' hl']
    cases h1 : lookT l' t.name with
    | some q =>
      simp only [Option.isSome_some, if_true, ih l' hl']
      cases h2 : lookT l' s with
      | some r => rfl
      | none =>
        have : ¬ s = t.name := fun e => by rw [e, h1] at h2; cases h2
        simp only [if_neg this]
    | none =>
      simp only [Option.isSome_none, Bool.false_eq_true, if_false]
      rw [lookT_app, ih l' hl']
theorem stT_nodup (l : List Th) : (stT l).2 = decide (l.map Th.name).Nodup := by
  suffices h : ∀ n (l : List Th), l.length = n → (stT l).2 = decide (l.map Th.name).Nodup from h _ l rfl
  intro n
  induction n with
  | zero => intro l hl; have := List.eq_nil_of_length_eq_zero hl; subst this; rfl
  | succ n ih =>
    intro l hl
    have hne : l ≠ [] := fun e => by subst e; simp at hl
    obtain ⟨l', t, rfl⟩ : ∃ l' t, l = l' ++ [t] := ⟨l.dropLast, l.getLast hne, (List.dropLast_concat_getLast hne).symm⟩
    have hl' : l'.length = n := by simpa using hl
    have hs := lookT_some t.name l'
    rw [stT_app]
    simp only [addB, stT_look, ih l' hl', hs, List.map_append, List.map_cons, List.map_nil]
    rw [Bool.eq_iff_iff]
    simp only [decide_eq_true_eq, List.nodup_append, List.nodup_cons, List.not_mem_nil, not_false_eq_true, List.nodup_nil, and_true, true_and, List.mem_singleton, List.contains_iff_mem]
    constructor
    · intro h
      split at h
      · cases h
      · rename_i hn
        refine ⟨of_decide_eq_true h, fun a ha b hb e => ?_⟩
        subst hb; subst e; exact hn ha
    · rintro ⟨h1, h2⟩
      rw [if_neg (fun hm => h2 _ hm _ rfl rfl)]
      exact decide_eq_true h1
theorem thK_names (k : Int) : ∀ (l : List Str) (i : Nat), (thK k i l).map Th.name = l
  | [], _ => rfl
  | s :: l, i => by simp only [thK, List.map_cons, thK_names k l (i + 1)]
theorem globT_names (p : Pg) : (globT p).map Th.name = globL p := by simp only [globT, globL, List.map_append, thK_names]
theorem locT_names (f : Fu) : (locT f).map Th.name = namesL f := by simp only [locT, namesL, thK_names]
theorem look_glob (p : Pg) (s : Str) : (match lookT (globT p) s with | some r => r | none => (0, -1)) = findG p s := by
  unfold globT findG globL
  rw [lookT_append, lookT_append, lookT_thK, lookT_thK, lookT_thK, placeN_append, placeN_append]
  cases h1 : placeN p.vars s with
  | some n =>
    have := (placeN_lt _ _ _ h1).1
    simp only [Option.map_some, Nat.zero_add, if_pos this]
  | none =>
    simp only [Option.map_none]
    cases h2 : placeN (p.arrs.map Ar.name) s with
    | some n =>
      have := (placeN_lt _ _ _ h2).1
      rw [List.length_map] at this
      simp only [Option.map_some, Nat.zero_add]
      rw [if_neg (by omega), if_pos (by omega), Nat.add_sub_cancel]
    | none =>
      simp only [Option.map_none]
      cases h3 : placeN (p.funs.map Fu.name) s with
      | some n =>
        simp only [Option.map_some, Nat.zero_add, List.length_append, List.length_map]
        rw [if_neg (by omega), if_neg (by omega)]
        congr 2
        omega
      | none => rfl
/-- what Check keeps of a use -/
def stepC (p : Pg) (i : Nat) (a : Bool × Bool) (u : Us) : Bool × Bool := (a.1 && okUse p i u, a.2 && (!okUse p i u || numU p i u))
theorem foldC (p : Pg) (i : Nat) : ∀ (l : List Us) (a b : Bool), l.foldl (stepC p i) (a, b) = (a && l.all (okUse p i), b && l.all (fun u => !okUse p i u || numU p i u))
  | [], a, b => by simp
  | u :: l, a, b => by
    simp only [List.foldl_cons, stepC, foldC p i l, List.all_cons, Bool.and_assoc]
end Go.Al
namespace Go.Proofs.Ytnbokmbjiioooaa
open Go.Al
theorem find_eq16 (p : Pg) (i : Nat) (f : Fu) (hf : p.funs[i]? = some f) (s : Str) : findM (stT (globT p)).1 (stT (locT f)).1 s = findF p i s := by
  unfold findM findF
  rw [stT_look, stT_look, hf]
  simp only [Option.bind_some]
  rw [show lookT (locT f) s = (placeN (namesL f) s).map fun n => (1, ((0 + n : Nat) : Int)) from lookT_thK 1 s (namesL f) 0]
  cases placeN (namesL f) s with
  | some n => simp
  | none => simp only [Option.map_none]; exact look_glob p s
end Go.Proofs.Ytnbokmbjiioooaa
