/-
  DERIVED. GIVEN WITH THE SEED: THE CARDS: each row of YtgcncdjnipfolaaDoorRows.lean that lists a variable, with what it lists TIED to the program's text (the seventh form; the later family's looks); each row that meets fmt, with fmt's text TOLD by the authors' own Lean function (tested against real Go, not proved from fmt's source: count such statements apart). THE CARD IS WHAT COUNTS. Prove the row's statement (the work); the ties are given (YtgcncdjnipfolaaDoorTie.lean); close each card by the builder's one call (the guide's Derived/Test/ToyasCard.lean, 'card_holds'). Laid BY PROGRAM, IN A SANDBOX (cutbox-door.mjs). By AI agents, Wed Nov 11 2026. No macro, syntax, notation, axiom, sorry.
-/
import Derived.Test.YtgcncdjnipfolaaDoorRows
import GoSem.ClaimSeven
namespace Go.Proofs.YtgcncdjnipfolaaDoor
namespace Rows

/-- THE TIED CARD OF 'seedcornlaw14.SyntaxRight'. -/
def syntaxRightCard : Claim7 := { stood := { row := syntaxRightRow, standIns := [], harness := (true, "ec2ef36217dd8fc6d2b3ae47d21d124f4214cdeaf9121903e594a60f485359f9"), looks := false }, kinds := [], alts := [], laidByText := true, laidKinds := [.data, .data, .data, .data, .data], laidTests := true, laidLooks := .later }
def SyntaxRightCardSaid : Prop := Claim7.holds Tryd.pinned (.plain (OpenSpec.ofChange syntaxRightSpec)) syntaxRightCard

/-- THE TIED CARD OF 'seedcornlaw14.SyntaxSame'. -/
def syntaxSameCard : Claim7 := { stood := { row := syntaxSameRow, standIns := [], harness := (true, "ec2ef36217dd8fc6d2b3ae47d21d124f4214cdeaf9121903e594a60f485359f9"), looks := false }, kinds := [], alts := [], laidByText := true, laidKinds := [.data, .data, .data, .data, .data], laidTests := true, laidLooks := .later }
def SyntaxSameCardSaid : Prop := Claim7.holds Tryd.pinned (.plain (OpenSpec.ofChange syntaxSameSpec)) syntaxSameCard

/-- THE TIED CARD OF 'seedcornlaw14.SyntaxPrints'. -/
def syntaxPrintsCard : Claim7 := { stood := { row := syntaxPrintsRow, standIns := [], harness := (true, "ec2ef36217dd8fc6d2b3ae47d21d124f4214cdeaf9121903e594a60f485359f9"), looks := false }, kinds := [], alts := [], laidByText := true, laidKinds := [.data, .data, .data, .data, .data], laidTests := true, laidLooks := .later }
def SyntaxPrintsCardSaid : Prop := Claim7.holds Tryd.pinned (.plain (OpenSpec.ofChange syntaxPrintsSpec)) syntaxPrintsCard

/-- THE TIED CARD OF 'seedcornlaw14.SyntaxExpr'. -/
def syntaxExprCard : Claim7 := { stood := { row := syntaxExprRow, standIns := [], harness := (true, "ec2ef36217dd8fc6d2b3ae47d21d124f4214cdeaf9121903e594a60f485359f9"), looks := false }, kinds := [], alts := [], laidByText := true, laidKinds := [.data, .data, .data, .data, .data], laidTests := true, laidLooks := .later }
def SyntaxExprCardSaid : Prop := Claim7.holds Tryd.pinned (.plain (OpenSpec.ofChange syntaxExprSpec)) syntaxExprCard

/-- THE TIED CARD OF 'seedcornlaw14.SyntaxApart'. -/
def syntaxApartCard : Claim7 := { stood := { row := syntaxApartRow, standIns := [], harness := (true, "ec2ef36217dd8fc6d2b3ae47d21d124f4214cdeaf9121903e594a60f485359f9"), looks := false }, kinds := [], alts := [], laidByText := true, laidKinds := [.data, .data, .data, .data, .data], laidTests := true, laidLooks := .later }
def SyntaxApartCardSaid : Prop := Claim7.holds Tryd.pinned (.plain (OpenSpec.ofChange syntaxApartSpec)) syntaxApartCard

/-- THE TIED CARD OF 'seedcornlaw14.SyntaxLevels'. -/
def syntaxLevelsCard : Claim7 := { stood := { row := syntaxLevelsRow, standIns := [], harness := (true, "ec2ef36217dd8fc6d2b3ae47d21d124f4214cdeaf9121903e594a60f485359f9"), looks := false }, kinds := [], alts := [], laidByText := true, laidKinds := [.data, .data, .data, .data, .data], laidTests := true, laidLooks := .later }
def SyntaxLevelsCardSaid : Prop := Claim7.holds Tryd.pinned (.plain (OpenSpec.ofChange syntaxLevelsSpec)) syntaxLevelsCard

/-- THE TIED CARD OF 'seedcornlaw14.SyntaxGrows'. -/
def syntaxGrowsCard : Claim7 := { stood := { row := syntaxGrowsRow, standIns := [], harness := (true, "ec2ef36217dd8fc6d2b3ae47d21d124f4214cdeaf9121903e594a60f485359f9"), looks := false }, kinds := [], alts := [], laidByText := true, laidKinds := [.data, .data, .data, .data, .data], laidTests := true, laidLooks := .later }
def SyntaxGrowsCardSaid : Prop := Claim7.holds Tryd.pinned (.plain (OpenSpec.ofChange syntaxGrowsSpec)) syntaxGrowsCard

/-- THE SECOND FORM's CARD OF 'seedcornlaw14.SyntaxRight'. -/
def syntaxRightUptoCard : Claim7 := { stood := { row := syntaxRightUptoRow, standIns := [], harness := (true, "ec2ef36217dd8fc6d2b3ae47d21d124f4214cdeaf9121903e594a60f485359f9"), looks := false }, kinds := [], alts := [], laidByText := true, laidKinds := [.data, .data, .data, .data, .data], laidTests := true, laidLooks := .later }
def SyntaxRightUptoCardSaid : Prop := Claim7.holds Tryd.pinned (.plain (OpenSpec.upto syntaxRightSpec)) syntaxRightUptoCard

/-- THE SECOND FORM's CARD OF 'seedcornlaw14.SyntaxSame'. -/
def syntaxSameUptoCard : Claim7 := { stood := { row := syntaxSameUptoRow, standIns := [], harness := (true, "ec2ef36217dd8fc6d2b3ae47d21d124f4214cdeaf9121903e594a60f485359f9"), looks := false }, kinds := [], alts := [], laidByText := true, laidKinds := [.data, .data, .data, .data, .data], laidTests := true, laidLooks := .later }
def SyntaxSameUptoCardSaid : Prop := Claim7.holds Tryd.pinned (.plain (OpenSpec.upto syntaxSameSpec)) syntaxSameUptoCard

/-- THE SECOND FORM's CARD OF 'seedcornlaw14.SyntaxPrints'. -/
def syntaxPrintsUptoCard : Claim7 := { stood := { row := syntaxPrintsUptoRow, standIns := [], harness := (true, "ec2ef36217dd8fc6d2b3ae47d21d124f4214cdeaf9121903e594a60f485359f9"), looks := false }, kinds := [], alts := [], laidByText := true, laidKinds := [.data, .data, .data, .data, .data], laidTests := true, laidLooks := .later }
def SyntaxPrintsUptoCardSaid : Prop := Claim7.holds Tryd.pinned (.plain (OpenSpec.upto syntaxPrintsSpec)) syntaxPrintsUptoCard

/-- THE SECOND FORM's CARD OF 'seedcornlaw14.SyntaxExpr'. -/
def syntaxExprUptoCard : Claim7 := { stood := { row := syntaxExprUptoRow, standIns := [], harness := (true, "ec2ef36217dd8fc6d2b3ae47d21d124f4214cdeaf9121903e594a60f485359f9"), looks := false }, kinds := [], alts := [], laidByText := true, laidKinds := [.data, .data, .data, .data, .data], laidTests := true, laidLooks := .later }
def SyntaxExprUptoCardSaid : Prop := Claim7.holds Tryd.pinned (.plain (OpenSpec.upto syntaxExprSpec)) syntaxExprUptoCard

/-- THE SECOND FORM's CARD OF 'seedcornlaw14.SyntaxApart'. -/
def syntaxApartUptoCard : Claim7 := { stood := { row := syntaxApartUptoRow, standIns := [], harness := (true, "ec2ef36217dd8fc6d2b3ae47d21d124f4214cdeaf9121903e594a60f485359f9"), looks := false }, kinds := [], alts := [], laidByText := true, laidKinds := [.data, .data, .data, .data, .data], laidTests := true, laidLooks := .later }
def SyntaxApartUptoCardSaid : Prop := Claim7.holds Tryd.pinned (.plain (OpenSpec.upto syntaxApartSpec)) syntaxApartUptoCard

/-- THE SECOND FORM's CARD OF 'seedcornlaw14.SyntaxLevels'. -/
def syntaxLevelsUptoCard : Claim7 := { stood := { row := syntaxLevelsUptoRow, standIns := [], harness := (true, "ec2ef36217dd8fc6d2b3ae47d21d124f4214cdeaf9121903e594a60f485359f9"), looks := false }, kinds := [], alts := [], laidByText := true, laidKinds := [.data, .data, .data, .data, .data], laidTests := true, laidLooks := .later }
def SyntaxLevelsUptoCardSaid : Prop := Claim7.holds Tryd.pinned (.plain (OpenSpec.upto syntaxLevelsSpec)) syntaxLevelsUptoCard

/-- THE SECOND FORM's CARD OF 'seedcornlaw14.SyntaxGrows'. -/
def syntaxGrowsUptoCard : Claim7 := { stood := { row := syntaxGrowsUptoRow, standIns := [], harness := (true, "ec2ef36217dd8fc6d2b3ae47d21d124f4214cdeaf9121903e594a60f485359f9"), looks := false }, kinds := [], alts := [], laidByText := true, laidKinds := [.data, .data, .data, .data, .data], laidTests := true, laidLooks := .later }
def SyntaxGrowsUptoCardSaid : Prop := Claim7.holds Tryd.pinned (.plain (OpenSpec.upto syntaxGrowsSpec)) syntaxGrowsUptoCard
end Rows
end Go.Proofs.YtgcncdjnipfolaaDoor
