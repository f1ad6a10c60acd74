/-
  DERIVED. GIVEN WITH THE SEED: THE CARDS: each row of YtefjogkgeelbdaaDoorRows.lean that lists a variable, with what it lists TIED to the program's text (the seventh form; the later family's looks); each row that meets fmt, with fmt's text TOLD by the authors' own Lean function (tested against real Go, not proved from fmt's source: count such statements apart). THE CARD IS WHAT COUNTS. Prove the row's statement (the work); the ties are given (YtefjogkgeelbdaaDoorTie.lean); close each card by the builder's one call (the guide's Derived/Test/ToyasCard.lean, 'card_holds'). Laid BY PROGRAM, IN A SANDBOX (cutbox-door.mjs). By AI agents, Wed Nov 11 2026. No macro, syntax, notation, axiom, sorry.
-/
import Derived.Test.YtefjogkgeelbdaaDoorRows
import GoSem.ClaimSeven
namespace Go.Proofs.YtefjogkgeelbdaaDoor
namespace Rows

/-- THE TIED CARD OF 'seedcornlaw17.TypingExpr'. -/
def typingExprCard : Claim7 := { stood := { row := typingExprRow, standIns := [], harness := (true, "030897e23736040d8e6de3f50b28055f0341e918cdf133e7ca3d06fc0e6f1f8b"), looks := false }, kinds := [], alts := [], laidByText := true, laidKinds := [.data], laidTests := true, laidLooks := .later }
def TypingExprCardSaid : Prop := Claim7.holds Tryd.pinned (.plain (OpenSpec.ofChange typingExprSpec)) typingExprCard

/-- THE TIED CARD OF 'seedcornlaw17.TypingCheck'. -/
def typingCheckCard : Claim7 := { stood := { row := typingCheckRow, standIns := [], harness := (true, "030897e23736040d8e6de3f50b28055f0341e918cdf133e7ca3d06fc0e6f1f8b"), looks := false }, kinds := [], alts := [], laidByText := true, laidKinds := [.data], laidTests := true, laidLooks := .later }
def TypingCheckCardSaid : Prop := Claim7.holds Tryd.pinned (.plain (OpenSpec.ofChange typingCheckSpec)) typingCheckCard

/-- THE TIED CARD OF 'seedcornlaw17.TypingSound'. -/
def typingSoundCard : Claim7 := { stood := { row := typingSoundRow, standIns := [], harness := (true, "030897e23736040d8e6de3f50b28055f0341e918cdf133e7ca3d06fc0e6f1f8b"), looks := false }, kinds := [], alts := [], laidByText := true, laidKinds := [.data], laidTests := true, laidLooks := .later }
def TypingSoundCardSaid : Prop := Claim7.holds Tryd.pinned (.plain (OpenSpec.ofChange typingSoundSpec)) typingSoundCard

/-- THE TIED CARD OF 'seedcornlaw17.TypingKinds'. -/
def typingKindsCard : Claim7 := { stood := { row := typingKindsRow, standIns := [], harness := (true, "030897e23736040d8e6de3f50b28055f0341e918cdf133e7ca3d06fc0e6f1f8b"), looks := false }, kinds := [], alts := [], laidByText := true, laidKinds := [.data], laidTests := true, laidLooks := .later }
def TypingKindsCardSaid : Prop := Claim7.holds Tryd.pinned (.plain (OpenSpec.ofChange typingKindsSpec)) typingKindsCard

/-- THE TIED CARD OF 'seedcornlaw17.TypingStmts'. -/
def typingStmtsCard : Claim7 := { stood := { row := typingStmtsRow, standIns := [], harness := (true, "030897e23736040d8e6de3f50b28055f0341e918cdf133e7ca3d06fc0e6f1f8b"), looks := false }, kinds := [], alts := [], laidByText := true, laidKinds := [.data], laidTests := true, laidLooks := .later }
def TypingStmtsCardSaid : Prop := Claim7.holds Tryd.pinned (.plain (OpenSpec.ofChange typingStmtsSpec)) typingStmtsCard

/-- THE TIED CARD OF 'seedcornlaw17.TypingNames'. -/
def typingNamesCard : Claim7 := { stood := { row := typingNamesRow, standIns := [], harness := (true, "030897e23736040d8e6de3f50b28055f0341e918cdf133e7ca3d06fc0e6f1f8b"), looks := false }, kinds := [], alts := [], laidByText := true, laidKinds := [.data], laidTests := true, laidLooks := .later }
def TypingNamesCardSaid : Prop := Claim7.holds Tryd.pinned (.plain (OpenSpec.ofChange typingNamesSpec)) typingNamesCard

/-- THE TIED CARD OF 'seedcornlaw17.TypingParts'. -/
def typingPartsCard : Claim7 := { stood := { row := typingPartsRow, standIns := [], harness := (true, "030897e23736040d8e6de3f50b28055f0341e918cdf133e7ca3d06fc0e6f1f8b"), looks := false }, kinds := [], alts := [], laidByText := true, laidKinds := [.data], laidTests := true, laidLooks := .later }
def TypingPartsCardSaid : Prop := Claim7.holds Tryd.pinned (.plain (OpenSpec.ofChange typingPartsSpec)) typingPartsCard

/-- THE SECOND FORM's CARD OF 'seedcornlaw17.TypingExpr'. -/
def typingExprUptoCard : Claim7 := { stood := { row := typingExprUptoRow, standIns := [], harness := (true, "030897e23736040d8e6de3f50b28055f0341e918cdf133e7ca3d06fc0e6f1f8b"), looks := false }, kinds := [], alts := [], laidByText := true, laidKinds := [.data], laidTests := true, laidLooks := .later }
def TypingExprUptoCardSaid : Prop := Claim7.holds Tryd.pinned (.plain (OpenSpec.upto typingExprSpec)) typingExprUptoCard

/-- THE SECOND FORM's CARD OF 'seedcornlaw17.TypingCheck'. -/
def typingCheckUptoCard : Claim7 := { stood := { row := typingCheckUptoRow, standIns := [], harness := (true, "030897e23736040d8e6de3f50b28055f0341e918cdf133e7ca3d06fc0e6f1f8b"), looks := false }, kinds := [], alts := [], laidByText := true, laidKinds := [.data], laidTests := true, laidLooks := .later }
def TypingCheckUptoCardSaid : Prop := Claim7.holds Tryd.pinned (.plain (OpenSpec.upto typingCheckSpec)) typingCheckUptoCard

/-- THE SECOND FORM's CARD OF 'seedcornlaw17.TypingSound'. -/
def typingSoundUptoCard : Claim7 := { stood := { row := typingSoundUptoRow, standIns := [], harness := (true, "030897e23736040d8e6de3f50b28055f0341e918cdf133e7ca3d06fc0e6f1f8b"), looks := false }, kinds := [], alts := [], laidByText := true, laidKinds := [.data], laidTests := true, laidLooks := .later }
def TypingSoundUptoCardSaid : Prop := Claim7.holds Tryd.pinned (.plain (OpenSpec.upto typingSoundSpec)) typingSoundUptoCard

/-- THE SECOND FORM's CARD OF 'seedcornlaw17.TypingKinds'. -/
def typingKindsUptoCard : Claim7 := { stood := { row := typingKindsUptoRow, standIns := [], harness := (true, "030897e23736040d8e6de3f50b28055f0341e918cdf133e7ca3d06fc0e6f1f8b"), looks := false }, kinds := [], alts := [], laidByText := true, laidKinds := [.data], laidTests := true, laidLooks := .later }
def TypingKindsUptoCardSaid : Prop := Claim7.holds Tryd.pinned (.plain (OpenSpec.upto typingKindsSpec)) typingKindsUptoCard

/-- THE SECOND FORM's CARD OF 'seedcornlaw17.TypingStmts'. -/
def typingStmtsUptoCard : Claim7 := { stood := { row := typingStmtsUptoRow, standIns := [], harness := (true, "030897e23736040d8e6de3f50b28055f0341e918cdf133e7ca3d06fc0e6f1f8b"), looks := false }, kinds := [], alts := [], laidByText := true, laidKinds := [.data], laidTests := true, laidLooks := .later }
def TypingStmtsUptoCardSaid : Prop := Claim7.holds Tryd.pinned (.plain (OpenSpec.upto typingStmtsSpec)) typingStmtsUptoCard

/-- THE SECOND FORM's CARD OF 'seedcornlaw17.TypingNames'. -/
def typingNamesUptoCard : Claim7 := { stood := { row := typingNamesUptoRow, standIns := [], harness := (true, "030897e23736040d8e6de3f50b28055f0341e918cdf133e7ca3d06fc0e6f1f8b"), looks := false }, kinds := [], alts := [], laidByText := true, laidKinds := [.data], laidTests := true, laidLooks := .later }
def TypingNamesUptoCardSaid : Prop := Claim7.holds Tryd.pinned (.plain (OpenSpec.upto typingNamesSpec)) typingNamesUptoCard

/-- THE SECOND FORM's CARD OF 'seedcornlaw17.TypingParts'. -/
def typingPartsUptoCard : Claim7 := { stood := { row := typingPartsUptoRow, standIns := [], harness := (true, "030897e23736040d8e6de3f50b28055f0341e918cdf133e7ca3d06fc0e6f1f8b"), looks := false }, kinds := [], alts := [], laidByText := true, laidKinds := [.data], laidTests := true, laidLooks := .later }
def TypingPartsUptoCardSaid : Prop := Claim7.holds Tryd.pinned (.plain (OpenSpec.upto typingPartsSpec)) typingPartsUptoCard
end Rows
end Go.Proofs.YtefjogkgeelbdaaDoor
