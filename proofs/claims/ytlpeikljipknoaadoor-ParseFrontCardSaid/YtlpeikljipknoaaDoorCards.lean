/-
  DERIVED. GIVEN WITH THE SEED: THE CARDS: each row of YtlpeikljipknoaaDoorRows.lean that lists a variable, with what it lists TIED to the program's text (the seventh form; the later family's looks); each row that meets fmt, with fmt's text TOLD by the authors' own Lean function (tested against real Go, not proved from fmt's source: count such statements apart). THE CARD IS WHAT COUNTS. Prove the row's statement (the work); the ties are given (YtlpeikljipknoaaDoorTie.lean); close each card by the builder's one call (the guide's Derived/Test/ToyasCard.lean, 'card_holds'). Laid BY PROGRAM, IN A SANDBOX (cutbox-door.mjs). By AI agents, Wed Nov 11 2026. No macro, syntax, notation, axiom, sorry.
-/
import Derived.Test.YtlpeikljipknoaaDoorRows
import GoSem.ClaimSeven
namespace Go.Proofs.YtlpeikljipknoaaDoor
namespace Rows

/-- THE TIED CARD OF 'seedcornlaw15.ParseProgs'. -/
def parseProgsCard : Claim7 := { stood := { row := parseProgsRow, standIns := [], harness := (true, "047d1ae8c732ae5644f76fbaee5d106699417150bb1ac7671280cbf3e1093a74"), looks := true }, kinds := [], alts := [], laidByText := true, laidKinds := [.data, .data], laidTests := true, laidLooks := .later }
def ParseProgsCardSaid : Prop := Claim7.holds Tryd.pinned (.plain (OpenSpec.ofChange parseProgsSpec)) parseProgsCard

/-- THE TIED CARD OF 'seedcornlaw15.ParseExprs'. -/
def parseExprsCard : Claim7 := { stood := { row := parseExprsRow, standIns := [], harness := (true, "047d1ae8c732ae5644f76fbaee5d106699417150bb1ac7671280cbf3e1093a74"), looks := true }, kinds := [], alts := [], laidByText := true, laidKinds := [.data, .data], laidTests := true, laidLooks := .later }
def ParseExprsCardSaid : Prop := Claim7.holds Tryd.pinned (.plain (OpenSpec.ofChange parseExprsSpec)) parseExprsCard

/-- THE TIED CARD OF 'seedcornlaw15.ParseBack'. -/
def parseBackCard : Claim7 := { stood := { row := parseBackRow, standIns := [], harness := (true, "047d1ae8c732ae5644f76fbaee5d106699417150bb1ac7671280cbf3e1093a74"), looks := true }, kinds := [], alts := [], laidByText := true, laidKinds := [.data, .data], laidTests := true, laidLooks := .later }
def ParseBackCardSaid : Prop := Claim7.holds Tryd.pinned (.plain (OpenSpec.ofChange parseBackSpec)) parseBackCard

/-- THE TIED CARD OF 'seedcornlaw15.ParseBlanks'. -/
def parseBlanksCard : Claim7 := { stood := { row := parseBlanksRow, standIns := [], harness := (true, "047d1ae8c732ae5644f76fbaee5d106699417150bb1ac7671280cbf3e1093a74"), looks := true }, kinds := [], alts := [], laidByText := true, laidKinds := [.data, .data], laidTests := true, laidLooks := .later }
def ParseBlanksCardSaid : Prop := Claim7.holds Tryd.pinned (.plain (OpenSpec.ofChange parseBlanksSpec)) parseBlanksCard

/-- THE TIED CARD OF 'seedcornlaw15.ParseParens'. -/
def parseParensCard : Claim7 := { stood := { row := parseParensRow, standIns := [], harness := (true, "047d1ae8c732ae5644f76fbaee5d106699417150bb1ac7671280cbf3e1093a74"), looks := true }, kinds := [], alts := [], laidByText := true, laidKinds := [.data, .data], laidTests := true, laidLooks := .later }
def ParseParensCardSaid : Prop := Claim7.holds Tryd.pinned (.plain (OpenSpec.ofChange parseParensSpec)) parseParensCard

/-- THE TIED CARD OF 'seedcornlaw15.ParseStrengths'. -/
def parseStrengthsCard : Claim7 := { stood := { row := parseStrengthsRow, standIns := [], harness := (true, "047d1ae8c732ae5644f76fbaee5d106699417150bb1ac7671280cbf3e1093a74"), looks := true }, kinds := [], alts := [], laidByText := true, laidKinds := [.data, .data], laidTests := true, laidLooks := .later }
def ParseStrengthsCardSaid : Prop := Claim7.holds Tryd.pinned (.plain (OpenSpec.ofChange parseStrengthsSpec)) parseStrengthsCard

/-- THE TIED CARD OF 'seedcornlaw15.ParseDeep'. -/
def parseDeepCard : Claim7 := { stood := { row := parseDeepRow, standIns := [], harness := (true, "047d1ae8c732ae5644f76fbaee5d106699417150bb1ac7671280cbf3e1093a74"), looks := true }, kinds := [], alts := [], laidByText := true, laidKinds := [.data, .data], laidTests := true, laidLooks := .later }
def ParseDeepCardSaid : Prop := Claim7.holds Tryd.pinned (.plain (OpenSpec.ofChange parseDeepSpec)) parseDeepCard

/-- THE TIED CARD OF 'seedcornlaw15.ParseFront'. -/
def parseFrontCard : Claim7 := { stood := { row := parseFrontRow, standIns := [], harness := (true, "047d1ae8c732ae5644f76fbaee5d106699417150bb1ac7671280cbf3e1093a74"), looks := true }, kinds := [], alts := [], laidByText := true, laidKinds := [.data, .data], laidTests := true, laidLooks := .later }
def ParseFrontCardSaid : Prop := Claim7.holds Tryd.pinned (.plain (OpenSpec.ofChange parseFrontSpec)) parseFrontCard

/-- THE SECOND FORM's CARD OF 'seedcornlaw15.ParseProgs'. -/
def parseProgsUptoCard : Claim7 := { stood := { row := parseProgsUptoRow, standIns := [], harness := (true, "047d1ae8c732ae5644f76fbaee5d106699417150bb1ac7671280cbf3e1093a74"), looks := true }, kinds := [], alts := [], laidByText := true, laidKinds := [.data, .data], laidTests := true, laidLooks := .later }
def ParseProgsUptoCardSaid : Prop := Claim7.holds Tryd.pinned (.plain (OpenSpec.upto parseProgsSpec)) parseProgsUptoCard

/-- THE SECOND FORM's CARD OF 'seedcornlaw15.ParseExprs'. -/
def parseExprsUptoCard : Claim7 := { stood := { row := parseExprsUptoRow, standIns := [], harness := (true, "047d1ae8c732ae5644f76fbaee5d106699417150bb1ac7671280cbf3e1093a74"), looks := true }, kinds := [], alts := [], laidByText := true, laidKinds := [.data, .data], laidTests := true, laidLooks := .later }
def ParseExprsUptoCardSaid : Prop := Claim7.holds Tryd.pinned (.plain (OpenSpec.upto parseExprsSpec)) parseExprsUptoCard

/-- THE SECOND FORM's CARD OF 'seedcornlaw15.ParseBack'. -/
def parseBackUptoCard : Claim7 := { stood := { row := parseBackUptoRow, standIns := [], harness := (true, "047d1ae8c732ae5644f76fbaee5d106699417150bb1ac7671280cbf3e1093a74"), looks := true }, kinds := [], alts := [], laidByText := true, laidKinds := [.data, .data], laidTests := true, laidLooks := .later }
def ParseBackUptoCardSaid : Prop := Claim7.holds Tryd.pinned (.plain (OpenSpec.upto parseBackSpec)) parseBackUptoCard

/-- THE SECOND FORM's CARD OF 'seedcornlaw15.ParseBlanks'. -/
def parseBlanksUptoCard : Claim7 := { stood := { row := parseBlanksUptoRow, standIns := [], harness := (true, "047d1ae8c732ae5644f76fbaee5d106699417150bb1ac7671280cbf3e1093a74"), looks := true }, kinds := [], alts := [], laidByText := true, laidKinds := [.data, .data], laidTests := true, laidLooks := .later }
def ParseBlanksUptoCardSaid : Prop := Claim7.holds Tryd.pinned (.plain (OpenSpec.upto parseBlanksSpec)) parseBlanksUptoCard

/-- THE SECOND FORM's CARD OF 'seedcornlaw15.ParseParens'. -/
def parseParensUptoCard : Claim7 := { stood := { row := parseParensUptoRow, standIns := [], harness := (true, "047d1ae8c732ae5644f76fbaee5d106699417150bb1ac7671280cbf3e1093a74"), looks := true }, kinds := [], alts := [], laidByText := true, laidKinds := [.data, .data], laidTests := true, laidLooks := .later }
def ParseParensUptoCardSaid : Prop := Claim7.holds Tryd.pinned (.plain (OpenSpec.upto parseParensSpec)) parseParensUptoCard

/-- THE SECOND FORM's CARD OF 'seedcornlaw15.ParseStrengths'. -/
def parseStrengthsUptoCard : Claim7 := { stood := { row := parseStrengthsUptoRow, standIns := [], harness := (true, "047d1ae8c732ae5644f76fbaee5d106699417150bb1ac7671280cbf3e1093a74"), looks := true }, kinds := [], alts := [], laidByText := true, laidKinds := [.data, .data], laidTests := true, laidLooks := .later }
def ParseStrengthsUptoCardSaid : Prop := Claim7.holds Tryd.pinned (.plain (OpenSpec.upto parseStrengthsSpec)) parseStrengthsUptoCard

/-- THE SECOND FORM's CARD OF 'seedcornlaw15.ParseDeep'. -/
def parseDeepUptoCard : Claim7 := { stood := { row := parseDeepUptoRow, standIns := [], harness := (true, "047d1ae8c732ae5644f76fbaee5d106699417150bb1ac7671280cbf3e1093a74"), looks := true }, kinds := [], alts := [], laidByText := true, laidKinds := [.data, .data], laidTests := true, laidLooks := .later }
def ParseDeepUptoCardSaid : Prop := Claim7.holds Tryd.pinned (.plain (OpenSpec.upto parseDeepSpec)) parseDeepUptoCard

/-- THE SECOND FORM's CARD OF 'seedcornlaw15.ParseFront'. -/
def parseFrontUptoCard : Claim7 := { stood := { row := parseFrontUptoRow, standIns := [], harness := (true, "047d1ae8c732ae5644f76fbaee5d106699417150bb1ac7671280cbf3e1093a74"), looks := true }, kinds := [], alts := [], laidByText := true, laidKinds := [.data, .data], laidTests := true, laidLooks := .later }
def ParseFrontUptoCardSaid : Prop := Claim7.holds Tryd.pinned (.plain (OpenSpec.upto parseFrontSpec)) parseFrontUptoCard
end Rows
end Go.Proofs.YtlpeikljipknoaaDoor
