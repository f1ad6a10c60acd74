/-
  NARROWER THAN 'FOR EVERY INPUT', by the rows' own cells (each row's printed sentence says how): MeaningRuns: loops · MeaningFuel: loops · MeaningValues: loops · MeaningTurned: loops · MeaningNames: loops · MeaningMore: loops.
  DERIVED. THE GIVEN ROWS OF THIS SEAT. 9 by the template 'for every input the law returns true; each argument reads behind the call as it read before'; 0 by the template 'total and deterministic' (their statements: YtlokndnkpleegaaTotals.lean).
  GIVEN WITH THE SEED: the statements are not yours to turn. If you find one false, say at which input.
  Laid BY PROGRAM, IN A SANDBOX (cutbox-rows.mjs): the forced cells as the released guide's own fill.sh prints them over the translation 0bbd44d1f1aac34b… (all of the seat's roots in one cut). By AI agents, Wed Nov 11 2026. No macro, syntax, notation, axiom, sorry.
-/
import Derived.Test.YtlokndnkpleegaaChecked
import GoSem.Claim
import GoSem.ClaimJoined
import GoSem.ClaimMapViews
import Derived.JoinedTies
import Derived.KernelRfl
namespace Go.Proofs.Ytlokndnkpleegaa
/- THE CELL 'sum', in the pinned program and in every row, IS THE sha256 OF THE DUMP (.gsa) THAT YtlokndnkpleegaaProg.lean LOADS. Nothing in Lean hashes anything: it is a label: what it is worth is what the hold of that sum in a sandbox is worth. -/
noncomputable def Try.pinned : Pinned := { name := "ytlokndnkpleegaa", sum := "0bbd44d1f1aac34b6016d66af5810b190bef915e2a603682758fec286f707963", checked := Try.checked }
namespace Rows
def none {H : Type} : Left H := { results := [], args := [] }

/-- 'seedcornlaw18.MeaningRuns': WHATEVER THE INPUT: true; the input reads as it did. -/
def meaningRunsSpec : ChangeSpec := { name := "meaningRuns", fn := fun _ => fun
  | [d1, d2, d3] => { results := [.lit (.bool true)], args := [d1, d2, d3] }
  | _ => none }
def meaningRunsRow : OpenClaim := { program := "ytlokndnkpleegaa", sum := "0bbd44d1f1aac34b6016d66af5810b190bef915e2a603682758fec286f707963", func := "seedcorn/seedcornlaw18.MeaningRuns", spec := "meaningRuns", unfollowed := true, recurses := true, loops := true, apart := false }
def MeaningRunsSaid : Prop := meaningRunsRow.holds Try.pinned (OpenSpec.ofChange meaningRunsSpec)

/-- ITS FALSE NEIGHBOUR: 'it returns false'. Refute it at one input. -/
def meaningRunsWrong : ChangeSpec := { name := "meaningRuns", fn := fun _ => fun
  | [d1, d2, d3] => { results := [.lit (.bool false)], args := [d1, d2, d3] }
  | _ => none }
def MeaningRunsWrongFalsely : Prop := meaningRunsRow.holds Try.pinned (OpenSpec.ofChange meaningRunsWrong)

/-- 'seedcornlaw18.MeaningFuel': WHATEVER THE INPUT: true; the input reads as it did. -/
def meaningFuelSpec : ChangeSpec := { name := "meaningFuel", fn := fun _ => fun
  | [d1, d2, d3] => { results := [.lit (.bool true)], args := [d1, d2, d3] }
  | _ => none }
def meaningFuelRow : OpenClaim := { program := "ytlokndnkpleegaa", sum := "0bbd44d1f1aac34b6016d66af5810b190bef915e2a603682758fec286f707963", func := "seedcorn/seedcornlaw18.MeaningFuel", spec := "meaningFuel", unfollowed := true, recurses := true, loops := true, apart := false }
def MeaningFuelSaid : Prop := meaningFuelRow.holds Try.pinned (OpenSpec.ofChange meaningFuelSpec)

/-- ITS FALSE NEIGHBOUR: 'it returns false'. Refute it at one input. -/
def meaningFuelWrong : ChangeSpec := { name := "meaningFuel", fn := fun _ => fun
  | [d1, d2, d3] => { results := [.lit (.bool false)], args := [d1, d2, d3] }
  | _ => none }
def MeaningFuelWrongFalsely : Prop := meaningFuelRow.holds Try.pinned (OpenSpec.ofChange meaningFuelWrong)

/-- 'seedcornlaw18.MeaningPuts': WHATEVER THE INPUT: true; the input reads as it did. -/
def meaningPutsSpec : ChangeSpec := { name := "meaningPuts", fn := fun _ => fun
  | [d] => { results := [.lit (.bool true)], args := [d] }
  | _ => none }
def meaningPutsRow : OpenClaim := { program := "ytlokndnkpleegaa", sum := "0bbd44d1f1aac34b6016d66af5810b190bef915e2a603682758fec286f707963", func := "seedcorn/seedcornlaw18.MeaningPuts", spec := "meaningPuts", unfollowed := true, recurses := true, apart := false }
def MeaningPutsSaid : Prop := meaningPutsRow.holds Try.pinned (OpenSpec.ofChange meaningPutsSpec)

/-- ITS FALSE NEIGHBOUR: 'it returns false'. Refute it at one input. -/
def meaningPutsWrong : ChangeSpec := { name := "meaningPuts", fn := fun _ => fun
  | [d] => { results := [.lit (.bool false)], args := [d] }
  | _ => none }
def MeaningPutsWrongFalsely : Prop := meaningPutsRow.holds Try.pinned (OpenSpec.ofChange meaningPutsWrong)

/-- 'seedcornlaw18.MeaningEchoes': WHATEVER THE INPUT: true; the input reads as it did. -/
def meaningEchoesSpec : ChangeSpec := { name := "meaningEchoes", fn := fun _ => fun
  | [d1, d2] => { results := [.lit (.bool true)], args := [d1, d2] }
  | _ => none }
def meaningEchoesRow : OpenClaim := { program := "ytlokndnkpleegaa", sum := "0bbd44d1f1aac34b6016d66af5810b190bef915e2a603682758fec286f707963", func := "seedcorn/seedcornlaw18.MeaningEchoes", spec := "meaningEchoes", unfollowed := true, recurses := true, apart := false }
def MeaningEchoesSaid : Prop := meaningEchoesRow.holds Try.pinned (OpenSpec.ofChange meaningEchoesSpec)

/-- ITS FALSE NEIGHBOUR: 'it returns false'. Refute it at one input. -/
def meaningEchoesWrong : ChangeSpec := { name := "meaningEchoes", fn := fun _ => fun
  | [d1, d2] => { results := [.lit (.bool false)], args := [d1, d2] }
  | _ => none }
def MeaningEchoesWrongFalsely : Prop := meaningEchoesRow.holds Try.pinned (OpenSpec.ofChange meaningEchoesWrong)

/-- 'seedcornlaw18.MeaningCounts': WHATEVER THE INPUT: true; the input reads as it did. -/
def meaningCountsSpec : ChangeSpec := { name := "meaningCounts", fn := fun _ => fun
  | [d] => { results := [.lit (.bool true)], args := [d] }
  | _ => none }
def meaningCountsRow : OpenClaim := { program := "ytlokndnkpleegaa", sum := "0bbd44d1f1aac34b6016d66af5810b190bef915e2a603682758fec286f707963", func := "seedcorn/seedcornlaw18.MeaningCounts", spec := "meaningCounts", unfollowed := true, recurses := true, apart := false }
def MeaningCountsSaid : Prop := meaningCountsRow.holds Try.pinned (OpenSpec.ofChange meaningCountsSpec)

/-- ITS FALSE NEIGHBOUR: 'it returns false'. Refute it at one input. -/
def meaningCountsWrong : ChangeSpec := { name := "meaningCounts", fn := fun _ => fun
  | [d] => { results := [.lit (.bool false)], args := [d] }
  | _ => none }
def MeaningCountsWrongFalsely : Prop := meaningCountsRow.holds Try.pinned (OpenSpec.ofChange meaningCountsWrong)

/-- 'seedcornlaw18.MeaningValues': WHATEVER THE INPUT: true; the input reads as it did. -/
def meaningValuesSpec : ChangeSpec := { name := "meaningValues", fn := fun _ => fun
  | [d] => { results := [.lit (.bool true)], args := [d] }
  | _ => none }
def meaningValuesRow : OpenClaim := { program := "ytlokndnkpleegaa", sum := "0bbd44d1f1aac34b6016d66af5810b190bef915e2a603682758fec286f707963", func := "seedcorn/seedcornlaw18.MeaningValues", spec := "meaningValues", unfollowed := true, recurses := true, loops := true, apart := false }
def MeaningValuesSaid : Prop := meaningValuesRow.holds Try.pinned (OpenSpec.ofChange meaningValuesSpec)

/-- ITS FALSE NEIGHBOUR: 'it returns false'. Refute it at one input. -/
def meaningValuesWrong : ChangeSpec := { name := "meaningValues", fn := fun _ => fun
  | [d] => { results := [.lit (.bool false)], args := [d] }
  | _ => none }
def MeaningValuesWrongFalsely : Prop := meaningValuesRow.holds Try.pinned (OpenSpec.ofChange meaningValuesWrong)

/-- 'seedcornlaw18.MeaningTurned': WHATEVER THE INPUT: true; the input reads as it did. -/
def meaningTurnedSpec : ChangeSpec := { name := "meaningTurned", fn := fun _ => fun
  | [d1, d2, d3] => { results := [.lit (.bool true)], args := [d1, d2, d3] }
  | _ => none }
def meaningTurnedRow : OpenClaim := { program := "ytlokndnkpleegaa", sum := "0bbd44d1f1aac34b6016d66af5810b190bef915e2a603682758fec286f707963", func := "seedcorn/seedcornlaw18.MeaningTurned", spec := "meaningTurned", unfollowed := true, recurses := true, loops := true, apart := false }
def MeaningTurnedSaid : Prop := meaningTurnedRow.holds Try.pinned (OpenSpec.ofChange meaningTurnedSpec)

/-- ITS FALSE NEIGHBOUR: 'it returns false'. Refute it at one input. -/
def meaningTurnedWrong : ChangeSpec := { name := "meaningTurned", fn := fun _ => fun
  | [d1, d2, d3] => { results := [.lit (.bool false)], args := [d1, d2, d3] }
  | _ => none }
def MeaningTurnedWrongFalsely : Prop := meaningTurnedRow.holds Try.pinned (OpenSpec.ofChange meaningTurnedWrong)

/-- 'seedcornlaw18.MeaningNames': WHATEVER THE INPUT: true; the input reads as it did. -/
def meaningNamesSpec : ChangeSpec := { name := "meaningNames", fn := fun _ => fun
  | [d1, d2, d3] => { results := [.lit (.bool true)], args := [d1, d2, d3] }
  | _ => none }
def meaningNamesRow : OpenClaim := { program := "ytlokndnkpleegaa", sum := "0bbd44d1f1aac34b6016d66af5810b190bef915e2a603682758fec286f707963", func := "seedcorn/seedcornlaw18.MeaningNames", spec := "meaningNames", unfollowed := true, recurses := true, loops := true, apart := false }
def MeaningNamesSaid : Prop := meaningNamesRow.holds Try.pinned (OpenSpec.ofChange meaningNamesSpec)

/-- ITS FALSE NEIGHBOUR: 'it returns false'. Refute it at one input. -/
def meaningNamesWrong : ChangeSpec := { name := "meaningNames", fn := fun _ => fun
  | [d1, d2, d3] => { results := [.lit (.bool false)], args := [d1, d2, d3] }
  | _ => none }
def MeaningNamesWrongFalsely : Prop := meaningNamesRow.holds Try.pinned (OpenSpec.ofChange meaningNamesWrong)

/-- 'seedcornlaw18.MeaningMore': WHATEVER THE INPUT: true; the input reads as it did. -/
def meaningMoreSpec : ChangeSpec := { name := "meaningMore", fn := fun _ => fun
  | [d1, d2, d3] => { results := [.lit (.bool true)], args := [d1, d2, d3] }
  | _ => none }
def meaningMoreRow : OpenClaim := { program := "ytlokndnkpleegaa", sum := "0bbd44d1f1aac34b6016d66af5810b190bef915e2a603682758fec286f707963", func := "seedcorn/seedcornlaw18.MeaningMore", spec := "meaningMore", unfollowed := true, recurses := true, loops := true, apart := false }
def MeaningMoreSaid : Prop := meaningMoreRow.holds Try.pinned (OpenSpec.ofChange meaningMoreSpec)

/-- ITS FALSE NEIGHBOUR: 'it returns false'. Refute it at one input. -/
def meaningMoreWrong : ChangeSpec := { name := "meaningMore", fn := fun _ => fun
  | [d1, d2, d3] => { results := [.lit (.bool false)], args := [d1, d2, d3] }
  | _ => none }
def MeaningMoreWrongFalsely : Prop := meaningMoreRow.holds Try.pinned (OpenSpec.ofChange meaningMoreWrong)

/- THE SECOND FORM. 'bulk': how many values and letters a reading holds, each counted each time it is reached (what is shared counts as often as it is met; a slice's spare places count too). A statement '..UptoSaid' is the law's where the arguments, and the package variables that the reading takes, are together of bulk at most 1048576: NARROWER than '..Said'. Prove '..Said' where nothing that the law and all that it calls make is longer than what came in: it says more and counts as full. Else prove '..UptoSaid'. A law counts once. -/
mutual
def uptoBulk {H : Type} : DataW H → Nat
  | .lit (.string bytes) => bytes.length + 1
  | .lit _ => 1
  | .nil => 1
  | .ptr d => uptoBulk d + 1
  | .slice elems spare => uptoBulkAll elems + uptoBulkAll spare + 1
  | .agg parts => uptoBulkAll parts + 1
  | .iface _ d => uptoBulk d + 1
  | .map entries => uptoBulkEntries entries + 1
  | .held _ => 1
def uptoBulkAll {H : Type} : List (DataW H) → Nat
  | [] => 0
  | d :: r => uptoBulk d + uptoBulkAll r
def uptoBulkEntries {H : Type} : List (Lit × DataW H) → Nat
  | [] => 0
  | x :: r => uptoBulkEntry x + uptoBulkEntries r
def uptoBulkEntry {H : Type} : Lit × DataW H → Nat
  | (.string bytes, d) => bytes.length + uptoBulk d + 1
  | (_, d) => uptoBulk d + 1
 end
def uptoSmall : (H : Type) → List (DataW H) → Bool := fun _ ds => decide (uptoBulkAll ds ≤ 1048576)
def OpenSpec.upto (s : _root_.Go.ChangeSpec) : _root_.Go.OpenSpec := { _root_.Go.OpenSpec.ofChange s with cond := some uptoSmall }

/-- 'seedcornlaw18.MeaningRuns', WHERE WHAT IT READS IS OF BULK AT MOST 1048576: true; the input reads as it did. -/
def meaningRunsUptoRow : OpenClaim := { program := "ytlokndnkpleegaa", sum := "0bbd44d1f1aac34b6016d66af5810b190bef915e2a603682758fec286f707963", func := "seedcorn/seedcornlaw18.MeaningRuns", spec := "meaningRuns", unfollowed := true, recurses := true, loops := true, apart := false, narrowed := true }
def MeaningRunsUptoSaid : Prop := meaningRunsUptoRow.holds Try.pinned (OpenSpec.upto meaningRunsSpec)

/-- 'seedcornlaw18.MeaningFuel', WHERE WHAT IT READS IS OF BULK AT MOST 1048576: true; the input reads as it did. -/
def meaningFuelUptoRow : OpenClaim := { program := "ytlokndnkpleegaa", sum := "0bbd44d1f1aac34b6016d66af5810b190bef915e2a603682758fec286f707963", func := "seedcorn/seedcornlaw18.MeaningFuel", spec := "meaningFuel", unfollowed := true, recurses := true, loops := true, apart := false, narrowed := true }
def MeaningFuelUptoSaid : Prop := meaningFuelUptoRow.holds Try.pinned (OpenSpec.upto meaningFuelSpec)

/-- 'seedcornlaw18.MeaningPuts', WHERE WHAT IT READS IS OF BULK AT MOST 1048576: true; the input reads as it did. -/
def meaningPutsUptoRow : OpenClaim := { program := "ytlokndnkpleegaa", sum := "0bbd44d1f1aac34b6016d66af5810b190bef915e2a603682758fec286f707963", func := "seedcorn/seedcornlaw18.MeaningPuts", spec := "meaningPuts", unfollowed := true, recurses := true, apart := false, narrowed := true }
def MeaningPutsUptoSaid : Prop := meaningPutsUptoRow.holds Try.pinned (OpenSpec.upto meaningPutsSpec)

/-- 'seedcornlaw18.MeaningEchoes', WHERE WHAT IT READS IS OF BULK AT MOST 1048576: true; the input reads as it did. -/
def meaningEchoesUptoRow : OpenClaim := { program := "ytlokndnkpleegaa", sum := "0bbd44d1f1aac34b6016d66af5810b190bef915e2a603682758fec286f707963", func := "seedcorn/seedcornlaw18.MeaningEchoes", spec := "meaningEchoes", unfollowed := true, recurses := true, apart := false, narrowed := true }
def MeaningEchoesUptoSaid : Prop := meaningEchoesUptoRow.holds Try.pinned (OpenSpec.upto meaningEchoesSpec)

/-- 'seedcornlaw18.MeaningCounts', WHERE WHAT IT READS IS OF BULK AT MOST 1048576: true; the input reads as it did. -/
def meaningCountsUptoRow : OpenClaim := { program := "ytlokndnkpleegaa", sum := "0bbd44d1f1aac34b6016d66af5810b190bef915e2a603682758fec286f707963", func := "seedcorn/seedcornlaw18.MeaningCounts", spec := "meaningCounts", unfollowed := true, recurses := true, apart := false, narrowed := true }
def MeaningCountsUptoSaid : Prop := meaningCountsUptoRow.holds Try.pinned (OpenSpec.upto meaningCountsSpec)

/-- 'seedcornlaw18.MeaningValues', WHERE WHAT IT READS IS OF BULK AT MOST 1048576: true; the input reads as it did. -/
def meaningValuesUptoRow : OpenClaim := { program := "ytlokndnkpleegaa", sum := "0bbd44d1f1aac34b6016d66af5810b190bef915e2a603682758fec286f707963", func := "seedcorn/seedcornlaw18.MeaningValues", spec := "meaningValues", unfollowed := true, recurses := true, loops := true, apart := false, narrowed := true }
def MeaningValuesUptoSaid : Prop := meaningValuesUptoRow.holds Try.pinned (OpenSpec.upto meaningValuesSpec)

/-- 'seedcornlaw18.MeaningTurned', WHERE WHAT IT READS IS OF BULK AT MOST 1048576: true; the input reads as it did. -/
def meaningTurnedUptoRow : OpenClaim := { program := "ytlokndnkpleegaa", sum := "0bbd44d1f1aac34b6016d66af5810b190bef915e2a603682758fec286f707963", func := "seedcorn/seedcornlaw18.MeaningTurned", spec := "meaningTurned", unfollowed := true, recurses := true, loops := true, apart := false, narrowed := true }
def MeaningTurnedUptoSaid : Prop := meaningTurnedUptoRow.holds Try.pinned (OpenSpec.upto meaningTurnedSpec)

/-- 'seedcornlaw18.MeaningNames', WHERE WHAT IT READS IS OF BULK AT MOST 1048576: true; the input reads as it did. -/
def meaningNamesUptoRow : OpenClaim := { program := "ytlokndnkpleegaa", sum := "0bbd44d1f1aac34b6016d66af5810b190bef915e2a603682758fec286f707963", func := "seedcorn/seedcornlaw18.MeaningNames", spec := "meaningNames", unfollowed := true, recurses := true, loops := true, apart := false, narrowed := true }
def MeaningNamesUptoSaid : Prop := meaningNamesUptoRow.holds Try.pinned (OpenSpec.upto meaningNamesSpec)

/-- 'seedcornlaw18.MeaningMore', WHERE WHAT IT READS IS OF BULK AT MOST 1048576: true; the input reads as it did. -/
def meaningMoreUptoRow : OpenClaim := { program := "ytlokndnkpleegaa", sum := "0bbd44d1f1aac34b6016d66af5810b190bef915e2a603682758fec286f707963", func := "seedcorn/seedcornlaw18.MeaningMore", spec := "meaningMore", unfollowed := true, recurses := true, loops := true, apart := false, narrowed := true }
def MeaningMoreUptoSaid : Prop := meaningMoreUptoRow.holds Try.pinned (OpenSpec.upto meaningMoreSpec)

end Rows
end Go.Proofs.Ytlokndnkpleegaa
