/- The little logic: weaker lists, within sealed lists too. -/
import Derived.Test.YtlokndnkpleegaaAlZ
set_option linter.unusedSimpArgs false
set_option linter.unusedVariables false
set_option maxRecDepth 10000
namespace Go.Al
inductive SubR : List AV → List AV → Prop
  | nil : SubR [] []
  | cons {x y : AV} {xs ys : List AV} : Sub x y → SubR xs ys → SubR (x :: xs) (y :: ys)
inductive SubRs : List (List AV) → List (List AV) → Prop
  | nil : SubRs [] []
  | cons {x y : List AV} {xs ys : List (List AV)} : SubR x y → SubRs xs ys → SubRs (x :: xs) (y :: ys)
theorem SubR.len {x y : List AV} (h : SubR x y) : y.length = x.length := by
  induction h with
  | nil => rfl
  | cons _ _ ih => simp [ih]
theorem SubRs.len {x y : List (List AV)} (h : SubRs x y) : y.length = x.length := by
  induction h with
  | nil => rfl
  | cons _ _ ih => simp [ih]
theorem SubR.list {x y : List AV} (h : SubR x y) : SubL x y := by
  induction h with
  | nil => exact SubL.refl _
  | cons h _ ih => exact SubL.cons h ih
theorem SubR.row {S : Seal} {w : World} {x y : List AV} (h : SubR x y) : ∀ {b off : Nat}, RowRel S w b off x → RowRel S w b off y := by
  induction h with
  | nil => intro b off h; exact h
  | cons h _ ih =>
    intro b off hr
    simp only [RowRel] at *
    obtain ⟨⟨u, h1, h2⟩, h3⟩ := hr
    exact ⟨⟨u, h1, h _ _ _ h2⟩, ih h3⟩
theorem SubRs.rows {S : Seal} {w : World} {sz : Nat} {x y : List (List AV)} (h : SubRs x y) : ∀ {b off : Nat}, RowsRel S w b off sz x → RowsRel S w b off sz y := by
  induction h with
  | nil => intro b off h; exact h
  | cons h _ ih =>
    intro b off hr
    simp only [RowsRel] at *
    obtain ⟨h1, h2, h3⟩ := hr
    exact ⟨h.len.trans h1, h.row h2, ih h3⟩
theorem Sub.isl {sz : Nat} {x y : List (List AV)} (h : SubRs x y) : Sub (.isl sz x) (.isl sz y) := by
  intro S w v hv
  simp only [VRel] at *
  obtain ⟨oa, cap, e, h1, h2, h3⟩ := hv
  have hl := h.len
  refine ⟨oa, cap, by rw [hl]; exact e, by rw [hl]; exact h1, h2, ?_⟩
  rcases h3 with h3 | ⟨b, off, e2, hb, hr⟩
  · subst h3; cases h; exact .inl rfl
  · exact .inr ⟨b, off, e2, hb, h.rows hr⟩
theorem Sub.aggR {x y : List AV} (h : SubR x y) : Sub (.agg x) (.agg y) := Sub.agg h.list
end Go.Al
