/- The little logic: a box's row made weaker; rows that name no owned block. -/
import Derived.Test.YtlokndnkpleegaaAlZa
import Derived.Test.YtlokndnkpleegaaAlLp
import Derived.Test.YtlokndnkpleegaaSynA
set_option linter.unusedSimpArgs false
set_option linter.unusedVariables false
set_option maxRecDepth 10000
namespace Go.Al
theorem SubR.get {x y : List AV} (h : SubR x y) : ∀ (j : Nat) a b, x[j]? = some a → y[j]? = some b → Sub a b := by
  induction h with
  | nil => intro j a b ha; simp at ha
  | cons h _ ih =>
    intro j a b ha hb
    cases j with
    | zero => simp at ha hb; subst ha; subst hb; exact h
    | succ j => exact ih j a b (by simpa using ha) (by simpa using hb)
theorem awp_weak1 {E : Env} {N : Nat} {Q : APost} {c : Code} {fr : Fr} {H : Hp} {b sz : Nat} {r r' : List AV} (hb : H b = some (.rows sz [r])) (hs : SubR r r') (h : awp E N c Q fr (upd H b (some (.rows sz [r'])))) : awp E N c Q fr H :=
  awp_weakRows (l' := [r']) hb rfl (fun i x x' hx hx' => by
    cases i with
    | zero => simp at hx hx'; subst hx; subst hx'; exact ⟨hs.len, hs.get⟩
    | succ i => simp at hx) h
/-- no value of a row owns a block -/
def flatV : AV → Bool
  | .osl _ _ _ => false
  | _ => true
theorem frz_flat {b sz : Nat} {l : List (List AV)} : ∀ {v : AV}, flatV v = true → frz b sz l v = v := by
  intro v h
  cases v <;> first | rfl | simp [flatV] at h
theorem frz_rowF {b sz : Nat} {l : List (List AV)} : ∀ {r : List AV}, r.all flatV = true → r.map (frz b sz l) = r
  | [], _ => rfl
  | v :: r, h => by
    simp only [List.all_cons, Bool.and_eq_true] at h
    rw [List.map_cons, frz_flat h.1, frz_rowF h.2]
theorem frz_rowsF {α : Type} {f : α → List AV} (hf : ∀ a, (f a).all flatV = true) {b sz : Nat} {l : List (List AV)} : ∀ (xs : List α), (xs.map f).map (fun x => x.map (frz b sz l)) = xs.map f
  | [] => rfl
  | x :: xs => by simp only [List.map_cons, frz_rowF (hf x)]; rw [frz_rowsF hf xs]
theorem flat_fu (f : Fu) : f.row.all flatV = true := rfl
theorem flat_sm (s : Sm) : s.row.all flatV = true := by rw [s.row_eq]; rfl
theorem flat_ex (s : Ex) : s.row.all flatV = true := by rw [s.row_eq]; rfl
theorem flat_str (s : Str) : (strRow s).all flatV = true := rfl
theorem one_sm (s : Sm) : s.row.all one = true := by rw [s.row_eq]; rfl
theorem one_ex (s : Ex) : s.row.all one = true := by rw [s.row_eq]; rfl
theorem one_rows {α : Type} {f : α → List AV} (hf : ∀ a, (f a).all one = true) (xs : List α) : (xs.map f).all (fun r => r.all one) = true := by
  simp only [List.all_map, List.all_eq_true]
  exact fun x _ => hf x
theorem one_sms (l : List Sm) : (l.map Sm.row).all (fun r => r.all one) = true := one_rows one_sm l
theorem one_exs (l : List Ex) : (l.map Ex.row).all (fun r => r.all one) = true := one_rows one_ex l
theorem one_fus (l : List Fu) : (l.map Fu.row).all (fun r => r.all one) = true := one_rows (fun _ => rfl) l
theorem one_ars (l : List Ar) : (l.map Ar.row).all (fun r => r.all one) = true := one_rows (fun _ => rfl) l
end Go.Al
