/-
  DERIVED. GIVEN WITH THE SEED: THE CARDS: each row of YtaecpjgmcffliaaGreatDoorRows.lean that lists a variable, with what it lists TIED to the program's text (the seventh form; the later family's looks); each row that meets fmt, with fmt's text TOLD by the authors' own Lean function (tested against real Go, not proved from fmt's source: count such statements apart). THE CARD IS WHAT COUNTS. Prove the row's statement (the work); the ties are given (YtaecpjgmcffliaaGreatDoorTie.lean); close each card by the builder's one call (the guide's Derived/Test/ToyasCard.lean, 'card_holds'). Laid BY PROGRAM, IN A SANDBOX (cutbox-door.mjs). By AI agents, Wed Nov 11 2026. No macro, syntax, notation, axiom, sorry.
-/
import Derived.Test.YtaecpjgmcffliaaGreatDoorRows
import GoSem.ClaimSeven
namespace Go.Proofs.YtaecpjgmcffliaaGreatDoor
namespace Rows

/-- THE TIED CARD OF 'seedcornlaw52.SelfTexts'. -/
def selfTextsCard : Claim7 := { stood := { row := selfTextsRow, standIns := [], harness := (true, "b4324813bda217d2826ca9e65c1687dbaa7e6f05ed12824159f224c655dace01"), looks := false }, kinds := [], alts := [], laidByText := true, laidKinds := [.data, .data, .data, .data], laidTests := true, laidLooks := .later }
def SelfTextsCardSaid : Prop := Claim7.holds Tryz.pinned (.plain (OpenSpec.ofChange selfTextsSpec)) selfTextsCard

/-- THE TIED CARD OF 'seedcornlaw52.SelfFits'. -/
def selfFitsCard : Claim7 := { stood := { row := selfFitsRow, standIns := [], harness := (true, "b4324813bda217d2826ca9e65c1687dbaa7e6f05ed12824159f224c655dace01"), looks := false }, kinds := [], alts := [], laidByText := true, laidKinds := [.data, .data, .data, .data], laidTests := true, laidLooks := .later }
def SelfFitsCardSaid : Prop := Claim7.holds Tryz.pinned (.plain (OpenSpec.ofChange selfFitsSpec)) selfFitsCard

/-- THE TIED CARD OF 'seedcornlaw52.SelfCompiles'. -/
def selfCompilesCard : Claim7 := { stood := { row := selfCompilesRow, standIns := [], harness := (true, "b4324813bda217d2826ca9e65c1687dbaa7e6f05ed12824159f224c655dace01"), looks := false }, kinds := [], alts := [], laidByText := true, laidKinds := [.data, .data, .data, .data], laidTests := true, laidLooks := .later }
def SelfCompilesCardSaid : Prop := Claim7.holds Tryz.pinned (.plain (OpenSpec.ofChange selfCompilesSpec)) selfCompilesCard

/-- THE TIED CARD OF 'seedcornlaw52.SelfAgain'. -/
def selfAgainCard : Claim7 := { stood := { row := selfAgainRow, standIns := [], harness := (true, "b4324813bda217d2826ca9e65c1687dbaa7e6f05ed12824159f224c655dace01"), looks := false }, kinds := [], alts := [], laidByText := true, laidKinds := [.data, .data, .data, .data], laidTests := true, laidLooks := .later }
def SelfAgainCardSaid : Prop := Claim7.holds Tryz.pinned (.plain (OpenSpec.ofChange selfAgainSpec)) selfAgainCard

/-- THE TIED CARD OF 'seedcornlaw52.SelfParents'. -/
def selfParentsCard : Claim7 := { stood := { row := selfParentsRow, standIns := [], harness := (true, "b4324813bda217d2826ca9e65c1687dbaa7e6f05ed12824159f224c655dace01"), looks := false }, kinds := [], alts := [], laidByText := true, laidKinds := [.data, .data, .data, .data], laidTests := true, laidLooks := .later }
def SelfParentsCardSaid : Prop := Claim7.holds Tryz.pinned (.plain (OpenSpec.ofChange selfParentsSpec)) selfParentsCard

/-- THE TIED CARD OF 'seedcornlaw52.SelfApart'. -/
def selfApartCard : Claim7 := { stood := { row := selfApartRow, standIns := [], harness := (true, "b4324813bda217d2826ca9e65c1687dbaa7e6f05ed12824159f224c655dace01"), looks := false }, kinds := [], alts := [], laidByText := true, laidKinds := [.data, .data, .data, .data], laidTests := true, laidLooks := .later }
def SelfApartCardSaid : Prop := Claim7.holds Tryz.pinned (.plain (OpenSpec.ofChange selfApartSpec)) selfApartCard

/-- THE TIED CARD OF 'seedcornlaw52.SelfSays'. -/
def selfSaysCard : Claim7 := { stood := { row := selfSaysRow, standIns := [], harness := (true, "b4324813bda217d2826ca9e65c1687dbaa7e6f05ed12824159f224c655dace01"), looks := false }, kinds := [], alts := [], laidByText := true, laidKinds := [.data, .data, .data, .data], laidTests := true, laidLooks := .later }
def SelfSaysCardSaid : Prop := Claim7.holds Tryz.pinned (.plain (OpenSpec.ofChange selfSaysSpec)) selfSaysCard

/-- THE SECOND FORM's CARD OF 'seedcornlaw52.SelfTexts'. -/
def selfTextsUptoCard : Claim7 := { stood := { row := selfTextsUptoRow, standIns := [], harness := (true, "b4324813bda217d2826ca9e65c1687dbaa7e6f05ed12824159f224c655dace01"), looks := false }, kinds := [], alts := [], laidByText := true, laidKinds := [.data, .data, .data, .data], laidTests := true, laidLooks := .later }
def SelfTextsUptoCardSaid : Prop := Claim7.holds Tryz.pinned (.plain (OpenSpec.upto selfTextsSpec)) selfTextsUptoCard

/-- THE SECOND FORM's CARD OF 'seedcornlaw52.SelfFits'. -/
def selfFitsUptoCard : Claim7 := { stood := { row := selfFitsUptoRow, standIns := [], harness := (true, "b4324813bda217d2826ca9e65c1687dbaa7e6f05ed12824159f224c655dace01"), looks := false }, kinds := [], alts := [], laidByText := true, laidKinds := [.data, .data, .data, .data], laidTests := true, laidLooks := .later }
def SelfFitsUptoCardSaid : Prop := Claim7.holds Tryz.pinned (.plain (OpenSpec.upto selfFitsSpec)) selfFitsUptoCard

/-- THE SECOND FORM's CARD OF 'seedcornlaw52.SelfCompiles'. -/
def selfCompilesUptoCard : Claim7 := { stood := { row := selfCompilesUptoRow, standIns := [], harness := (true, "b4324813bda217d2826ca9e65c1687dbaa7e6f05ed12824159f224c655dace01"), looks := false }, kinds := [], alts := [], laidByText := true, laidKinds := [.data, .data, .data, .data], laidTests := true, laidLooks := .later }
def SelfCompilesUptoCardSaid : Prop := Claim7.holds Tryz.pinned (.plain (OpenSpec.upto selfCompilesSpec)) selfCompilesUptoCard

/-- THE SECOND FORM's CARD OF 'seedcornlaw52.SelfAgain'. -/
def selfAgainUptoCard : Claim7 := { stood := { row := selfAgainUptoRow, standIns := [], harness := (true, "b4324813bda217d2826ca9e65c1687dbaa7e6f05ed12824159f224c655dace01"), looks := false }, kinds := [], alts := [], laidByText := true, laidKinds := [.data, .data, .data, .data], laidTests := true, laidLooks := .later }
def SelfAgainUptoCardSaid : Prop := Claim7.holds Tryz.pinned (.plain (OpenSpec.upto selfAgainSpec)) selfAgainUptoCard

/-- THE SECOND FORM's CARD OF 'seedcornlaw52.SelfParents'. -/
def selfParentsUptoCard : Claim7 := { stood := { row := selfParentsUptoRow, standIns := [], harness := (true, "b4324813bda217d2826ca9e65c1687dbaa7e6f05ed12824159f224c655dace01"), looks := false }, kinds := [], alts := [], laidByText := true, laidKinds := [.data, .data, .data, .data], laidTests := true, laidLooks := .later }
def SelfParentsUptoCardSaid : Prop := Claim7.holds Tryz.pinned (.plain (OpenSpec.upto selfParentsSpec)) selfParentsUptoCard

/-- THE SECOND FORM's CARD OF 'seedcornlaw52.SelfApart'. -/
def selfApartUptoCard : Claim7 := { stood := { row := selfApartUptoRow, standIns := [], harness := (true, "b4324813bda217d2826ca9e65c1687dbaa7e6f05ed12824159f224c655dace01"), looks := false }, kinds := [], alts := [], laidByText := true, laidKinds := [.data, .data, .data, .data], laidTests := true, laidLooks := .later }
def SelfApartUptoCardSaid : Prop := Claim7.holds Tryz.pinned (.plain (OpenSpec.upto selfApartSpec)) selfApartUptoCard

/-- THE SECOND FORM's CARD OF 'seedcornlaw52.SelfSays'. -/
def selfSaysUptoCard : Claim7 := { stood := { row := selfSaysUptoRow, standIns := [], harness := (true, "b4324813bda217d2826ca9e65c1687dbaa7e6f05ed12824159f224c655dace01"), looks := false }, kinds := [], alts := [], laidByText := true, laidKinds := [.data, .data, .data, .data], laidTests := true, laidLooks := .later }
def SelfSaysUptoCardSaid : Prop := Claim7.holds Tryz.pinned (.plain (OpenSpec.upto selfSaysSpec)) selfSaysUptoCard
end Rows
end Go.Proofs.YtaecpjgmcffliaaGreatDoor
