/- The little logic, nineteenth part: lists that are built by append and handed back. -/
import Derived.Test.YtcfapbmjaiipjaaDoorAlR
set_option linter.unusedSimpArgs false
set_option linter.unusedVariables false
namespace Go.Al
/-- a list as a function hands it back: nil if it is empty -/
def slV (sz : Nat) (rows : List (List AV)) : AV := match rows with | [] => .nsl | _ => .isl sz rows
/-- a list that grows by append from nil on -/
def OwnN (sz : Nat) (v : AV) (rows : List (List AV)) (H : Hp) : Prop := (v = .nsl ∧ rows = []) ∨ (rows ≠ [] ∧ ∃ b, v = .osl sz b rows.length ∧ H b = some (.rows sz rows))
theorem OwnN.own {sz : Nat} {v : AV} {rows : List (List AV)} {H : Hp} (h : OwnN sz v rows H) : OwnL sz v rows H := h.imp id And.right
theorem OwnL.ne {sz : Nat} {v : AV} {rows : List (List AV)} {H : Hp} (h : OwnL sz v rows H) (hr : rows ≠ []) : OwnN sz v rows H := h.imp id fun h => ⟨hr, h⟩
/-- Seal the list that stands first in a tuple. -/
theorem OwnN.gives {sz : Nat} {v : AV} {rows : List (List AV)} {H : Hp} {vs : List AV} {v' : AV} (h : OwnN sz v rows H) (e : v' = .tup (slV sz rows :: vs)) : Gives (fun ae H' => ae = .ret v' ∧ H' = emp) (.tup (v :: vs)) H := by
  subst e
  rcases h with ⟨rfl, rfl⟩ | ⟨hne, b, rfl, hb⟩
  · exact Gives.pure rfl
  · refine Gives.turn (Turn.freeze hb (FSub.cons (FSub.osl b sz rows) (FSub.refl _ _ _ _))) (Gives.pure ?_)
    cases rows with
    | nil => exact absurd rfl hne
    | cons => rfl
theorem OwnN.gives1 {sz : Nat} {v : AV} {rows : List (List AV)} {H : Hp} {v' : AV} (h : OwnN sz v rows H) (e : v' = slV sz rows) : Gives (fun ae H' => ae = .ret v' ∧ H' = emp) v H := by
  subst e
  rcases h with ⟨rfl, rfl⟩ | ⟨hne, b, rfl, hb⟩
  · exact Gives.pure rfl
  · refine Gives.turn (Turn.freeze hb (FSub.osl b sz rows)) (Gives.pure ?_)
    cases rows with
    | nil => exact absurd rfl hne
    | cons => rfl
end Go.Al
