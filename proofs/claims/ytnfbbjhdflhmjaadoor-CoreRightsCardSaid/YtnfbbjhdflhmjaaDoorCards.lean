/-
  DERIVED. GIVEN WITH THE SEED: THE CARDS: each row of YtnfbbjhdflhmjaaDoorRows.lean that lists a variable, with what it lists TIED to the program's text (the seventh form; the later family's looks); each row that meets fmt, with fmt's text TOLD by the authors' own Lean function (tested against real Go, not proved from fmt's source: count such statements apart). THE CARD IS WHAT COUNTS. Prove the row's statement (the work); the ties are given (YtnfbbjhdflhmjaaDoorTie.lean); close each card by the builder's one call (the guide's Derived/Test/ToyasCard.lean, 'card_holds'). Laid BY PROGRAM, IN A SANDBOX (cutbox-door.mjs). By AI agents, Wed Nov 11 2026. No macro, syntax, notation, axiom, sorry.
-/
import Derived.Test.YtnfbbjhdflhmjaaDoorRows
import GoSem.ClaimSeven
namespace Go.Proofs.YtnfbbjhdflhmjaaDoor
namespace Rows

/-- THE TIED CARD OF 'seedcornlaw19.CoreRuns'. -/
def coreRunsCard : Claim7 := { stood := { row := coreRunsRow, standIns := [], harness := (true, "89fd3bf4d9cf7ae58ec94941cca671cf9890cbf7a67da9955521b34ba8250cff"), looks := true }, kinds := [], alts := [], laidByText := true, laidKinds := [.data], laidTests := true, laidLooks := .later }
def CoreRunsCardSaid : Prop := Claim7.holds Tryd.pinned (.plain (OpenSpec.ofChange coreRunsSpec)) coreRunsCard

/-- THE TIED CARD OF 'seedcornlaw19.CoreStays'. -/
def coreStaysCard : Claim7 := { stood := { row := coreStaysRow, standIns := [], harness := (true, "89fd3bf4d9cf7ae58ec94941cca671cf9890cbf7a67da9955521b34ba8250cff"), looks := true }, kinds := [], alts := [], laidByText := true, laidKinds := [.data], laidTests := true, laidLooks := .later }
def CoreStaysCardSaid : Prop := Claim7.holds Tryd.pinned (.plain (OpenSpec.ofChange coreStaysSpec)) coreStaysCard

/-- THE TIED CARD OF 'seedcornlaw19.CoreReads'. -/
def coreReadsCard : Claim7 := { stood := { row := coreReadsRow, standIns := [], harness := (true, "89fd3bf4d9cf7ae58ec94941cca671cf9890cbf7a67da9955521b34ba8250cff"), looks := true }, kinds := [], alts := [], laidByText := true, laidKinds := [.data], laidTests := true, laidLooks := .later }
def CoreReadsCardSaid : Prop := Claim7.holds Tryd.pinned (.plain (OpenSpec.ofChange coreReadsSpec)) coreReadsCard

/-- THE TIED CARD OF 'seedcornlaw19.CoreRights'. -/
def coreRightsCard : Claim7 := { stood := { row := coreRightsRow, standIns := [], harness := (true, "89fd3bf4d9cf7ae58ec94941cca671cf9890cbf7a67da9955521b34ba8250cff"), looks := true }, kinds := [], alts := [], laidByText := true, laidKinds := [.data], laidTests := true, laidLooks := .later }
def CoreRightsCardSaid : Prop := Claim7.holds Tryd.pinned (.plain (OpenSpec.ofChange coreRightsSpec)) coreRightsCard

/-- THE SECOND FORM's CARD OF 'seedcornlaw19.CoreRuns'. -/
def coreRunsUptoCard : Claim7 := { stood := { row := coreRunsUptoRow, standIns := [], harness := (true, "89fd3bf4d9cf7ae58ec94941cca671cf9890cbf7a67da9955521b34ba8250cff"), looks := true }, kinds := [], alts := [], laidByText := true, laidKinds := [.data], laidTests := true, laidLooks := .later }
def CoreRunsUptoCardSaid : Prop := Claim7.holds Tryd.pinned (.plain (OpenSpec.upto coreRunsSpec)) coreRunsUptoCard

/-- THE SECOND FORM's CARD OF 'seedcornlaw19.CoreStays'. -/
def coreStaysUptoCard : Claim7 := { stood := { row := coreStaysUptoRow, standIns := [], harness := (true, "89fd3bf4d9cf7ae58ec94941cca671cf9890cbf7a67da9955521b34ba8250cff"), looks := true }, kinds := [], alts := [], laidByText := true, laidKinds := [.data], laidTests := true, laidLooks := .later }
def CoreStaysUptoCardSaid : Prop := Claim7.holds Tryd.pinned (.plain (OpenSpec.upto coreStaysSpec)) coreStaysUptoCard

/-- THE SECOND FORM's CARD OF 'seedcornlaw19.CoreReads'. -/
def coreReadsUptoCard : Claim7 := { stood := { row := coreReadsUptoRow, standIns := [], harness := (true, "89fd3bf4d9cf7ae58ec94941cca671cf9890cbf7a67da9955521b34ba8250cff"), looks := true }, kinds := [], alts := [], laidByText := true, laidKinds := [.data], laidTests := true, laidLooks := .later }
def CoreReadsUptoCardSaid : Prop := Claim7.holds Tryd.pinned (.plain (OpenSpec.upto coreReadsSpec)) coreReadsUptoCard

/-- THE SECOND FORM's CARD OF 'seedcornlaw19.CoreRights'. -/
def coreRightsUptoCard : Claim7 := { stood := { row := coreRightsUptoRow, standIns := [], harness := (true, "89fd3bf4d9cf7ae58ec94941cca671cf9890cbf7a67da9955521b34ba8250cff"), looks := true }, kinds := [], alts := [], laidByText := true, laidKinds := [.data], laidTests := true, laidLooks := .later }
def CoreRightsUptoCardSaid : Prop := Claim7.holds Tryd.pinned (.plain (OpenSpec.upto coreRightsSpec)) coreRightsUptoCard
end Rows
end Go.Proofs.YtnfbbjhdflhmjaaDoor
