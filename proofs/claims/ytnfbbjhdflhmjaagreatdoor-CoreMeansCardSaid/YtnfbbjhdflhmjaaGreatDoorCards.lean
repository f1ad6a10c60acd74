/-
  DERIVED. GIVEN WITH THE SEED: THE CARDS: each row of YtnfbbjhdflhmjaaGreatDoorRows.lean that lists a variable, with what it lists TIED to the program's text (the seventh form; the later family's looks); each row that meets fmt, with fmt's text TOLD by the authors' own Lean function (tested against real Go, not proved from fmt's source: count such statements apart). THE CARD IS WHAT COUNTS. Prove the row's statement (the work); the ties are given (YtnfbbjhdflhmjaaGreatDoorTie.lean); close each card by the builder's one call (the guide's Derived/Test/ToyasCard.lean, 'card_holds'). Laid BY PROGRAM, IN A SANDBOX (cutbox-door.mjs). By AI agents, Wed Nov 11 2026. No macro, syntax, notation, axiom, sorry.
-/
import Derived.Test.YtnfbbjhdflhmjaaGreatDoorRows
import GoSem.ClaimSeven
namespace Go.Proofs.YtnfbbjhdflhmjaaGreatDoor
namespace Rows

/-- THE TIED CARD OF 'seedcornlaw19.CoreSound'. -/
def coreSoundCard : Claim7 := { stood := { row := coreSoundRow, standIns := [], harness := (true, "32b967feeae88880e94bb6afb6d9d01c25af29c55e921dfec60d25fab447ddd1"), looks := true }, kinds := [], alts := [], laidByText := true, laidKinds := [.data], laidTests := true, laidLooks := .later }
def CoreSoundCardSaid : Prop := Claim7.holds Tryz.pinned (.plain (OpenSpec.ofChange coreSoundSpec)) coreSoundCard

/-- THE TIED CARD OF 'seedcornlaw19.CoreOf'. -/
def coreOfCard : Claim7 := { stood := { row := coreOfRow, standIns := [], harness := (true, "32b967feeae88880e94bb6afb6d9d01c25af29c55e921dfec60d25fab447ddd1"), looks := true }, kinds := [], alts := [], laidByText := true, laidKinds := [.data], laidTests := true, laidLooks := .later }
def CoreOfCardSaid : Prop := Claim7.holds Tryz.pinned (.plain (OpenSpec.ofChange coreOfSpec)) coreOfCard

/-- THE TIED CARD OF 'seedcornlaw19.CoreMeans'. -/
def coreMeansCard : Claim7 := { stood := { row := coreMeansRow, standIns := [], harness := (true, "32b967feeae88880e94bb6afb6d9d01c25af29c55e921dfec60d25fab447ddd1"), looks := true }, kinds := [], alts := [], laidByText := true, laidKinds := [.data], laidTests := true, laidLooks := .later }
def CoreMeansCardSaid : Prop := Claim7.holds Tryz.pinned (.plain (OpenSpec.ofChange coreMeansSpec)) coreMeansCard

/-- THE SECOND FORM's CARD OF 'seedcornlaw19.CoreSound'. -/
def coreSoundUptoCard : Claim7 := { stood := { row := coreSoundUptoRow, standIns := [], harness := (true, "32b967feeae88880e94bb6afb6d9d01c25af29c55e921dfec60d25fab447ddd1"), looks := true }, kinds := [], alts := [], laidByText := true, laidKinds := [.data], laidTests := true, laidLooks := .later }
def CoreSoundUptoCardSaid : Prop := Claim7.holds Tryz.pinned (.plain (OpenSpec.upto coreSoundSpec)) coreSoundUptoCard

/-- THE SECOND FORM's CARD OF 'seedcornlaw19.CoreOf'. -/
def coreOfUptoCard : Claim7 := { stood := { row := coreOfUptoRow, standIns := [], harness := (true, "32b967feeae88880e94bb6afb6d9d01c25af29c55e921dfec60d25fab447ddd1"), looks := true }, kinds := [], alts := [], laidByText := true, laidKinds := [.data], laidTests := true, laidLooks := .later }
def CoreOfUptoCardSaid : Prop := Claim7.holds Tryz.pinned (.plain (OpenSpec.upto coreOfSpec)) coreOfUptoCard

/-- THE SECOND FORM's CARD OF 'seedcornlaw19.CoreMeans'. -/
def coreMeansUptoCard : Claim7 := { stood := { row := coreMeansUptoRow, standIns := [], harness := (true, "32b967feeae88880e94bb6afb6d9d01c25af29c55e921dfec60d25fab447ddd1"), looks := true }, kinds := [], alts := [], laidByText := true, laidKinds := [.data], laidTests := true, laidLooks := .later }
def CoreMeansUptoCardSaid : Prop := Claim7.holds Tryz.pinned (.plain (OpenSpec.upto coreMeansSpec)) coreMeansUptoCard
end Rows
end Go.Proofs.YtnfbbjhdflhmjaaGreatDoor
