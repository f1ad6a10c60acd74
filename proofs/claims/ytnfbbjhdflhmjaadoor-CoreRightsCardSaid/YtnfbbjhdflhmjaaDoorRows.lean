/-
  NARROWER THAN 'FOR EVERY INPUT', by the rows' own cells (each row's printed sentence says how): CoreRuns: loops, laid · CoreStays: loops, laid · CoreReads: loops, laid · CoreRights: loops, laid.
  DERIVED. THE GIVEN ROWS OF THIS SEAT. 4 by the template 'for every input the law returns true; each argument reads behind the call as it read before'; 0 by the template 'total and deterministic' (their statements: YtnfbbjhdflhmjaaDoorTotals.lean).
  GIVEN WITH THE SEED: the statements are not yours to turn. If you find one false, say at which input.
  Laid BY PROGRAM, IN A SANDBOX (cutbox-rows.mjs): the forced cells as the released guide's own fill.sh prints them over the translation a8261a461046744b… (all of the seat's roots in one cut). By AI agents, Wed Nov 11 2026. No macro, syntax, notation, axiom, sorry.
-/
import Derived.Test.YtnfbbjhdflhmjaaDoorChecked
import GoSem.Claim
import GoSem.ClaimJoined
import GoSem.ClaimMapViews
import Derived.JoinedTies
import Derived.KernelRfl
namespace Go.Proofs.YtnfbbjhdflhmjaaDoor
/- THE CELL 'sum', in the pinned program and in every row, IS THE sha256 OF THE DUMP (.gsa) THAT YtnfbbjhdflhmjaaDoorProg.lean LOADS. Nothing in Lean hashes anything: it is a label: what it is worth is what the hold of that sum in a sandbox is worth. -/
noncomputable def Tryd.pinned : Pinned := { name := "ytnfbbjhdflhmjaadoor", sum := "a8261a461046744b21e754eb11128e0605b293939796e7853269d951cf7e9448", checked := Tryd.checked }
namespace Rows
def none {H : Type} : Left H := { results := [], args := [] }

/- WHAT THE LISTED PACKAGE-LEVEL VARIABLES READ AS WHEN THE CALL BEGINS. Each datum BY PROGRAM (the guide's laid-datum.mjs) off the statement by which the dump's own 'gosem.cut.vars' lays the variable. In a bare row this is a premise. The card (YtnfbbjhdflhmjaaDoorCards.lean) ties it to the program's text. -/
def laid_seedcorn_token_words {H : Type} : DataW H := .agg [.lit (.string [118, 97, 114]), .lit (.string [97, 114, 114, 97, 121]), .lit (.string [102, 117, 110, 99]), .lit (.string [119, 111, 114, 100]), .lit (.string [105, 102]), .lit (.string [101, 108, 115, 101]), .lit (.string [119, 104, 105, 108, 101]), .lit (.string [114, 101, 116, 117, 114, 110]), .lit (.string [112, 117, 116]), .lit (.string [103, 101, 116])]

/-- 'seedcornlaw19.CoreRuns': WHATEVER THE INPUT: true; the input reads as it did. -/
def coreRunsSpec : ChangeSpec := { name := "coreRuns", fn := fun _ => fun
  | [d1, d2, d3] => { results := [.lit (.bool true)], args := [d1, d2, d3] }
  | _ => none }
def coreRunsRow : OpenClaim := { program := "ytnfbbjhdflhmjaadoor", sum := "a8261a461046744b21e754eb11128e0605b293939796e7853269d951cf7e9448", func := "seedcorn/seedcornlaw19.CoreRuns", spec := "coreRuns", unfollowed := true, recurses := true, named := ["seedcorn/token.words"], loops := true, apart := false, laid := [("seedcorn/token.words", laid_seedcorn_token_words)] }
def CoreRunsSaid : Prop := coreRunsRow.holds Tryd.pinned (OpenSpec.ofChange coreRunsSpec)

/-- ITS FALSE NEIGHBOUR: 'it returns false'. Refute it at one input. -/
def coreRunsWrong : ChangeSpec := { name := "coreRuns", fn := fun _ => fun
  | [d1, d2, d3] => { results := [.lit (.bool false)], args := [d1, d2, d3] }
  | _ => none }
def CoreRunsWrongFalsely : Prop := coreRunsRow.holds Tryd.pinned (OpenSpec.ofChange coreRunsWrong)

/-- 'seedcornlaw19.CoreStays': WHATEVER THE INPUT: true; the input reads as it did. -/
def coreStaysSpec : ChangeSpec := { name := "coreStays", fn := fun _ => fun
  | [d1, d2, d3] => { results := [.lit (.bool true)], args := [d1, d2, d3] }
  | _ => none }
def coreStaysRow : OpenClaim := { program := "ytnfbbjhdflhmjaadoor", sum := "a8261a461046744b21e754eb11128e0605b293939796e7853269d951cf7e9448", func := "seedcorn/seedcornlaw19.CoreStays", spec := "coreStays", unfollowed := true, recurses := true, named := ["seedcorn/token.words"], loops := true, apart := false, laid := [("seedcorn/token.words", laid_seedcorn_token_words)] }
def CoreStaysSaid : Prop := coreStaysRow.holds Tryd.pinned (OpenSpec.ofChange coreStaysSpec)

/-- ITS FALSE NEIGHBOUR: 'it returns false'. Refute it at one input. -/
def coreStaysWrong : ChangeSpec := { name := "coreStays", fn := fun _ => fun
  | [d1, d2, d3] => { results := [.lit (.bool false)], args := [d1, d2, d3] }
  | _ => none }
def CoreStaysWrongFalsely : Prop := coreStaysRow.holds Tryd.pinned (OpenSpec.ofChange coreStaysWrong)

/-- 'seedcornlaw19.CoreReads': WHATEVER THE INPUT: true; the input reads as it did. -/
def coreReadsSpec : ChangeSpec := { name := "coreReads", fn := fun _ => fun
  | [d1, d2, d3] => { results := [.lit (.bool true)], args := [d1, d2, d3] }
  | _ => none }
def coreReadsRow : OpenClaim := { program := "ytnfbbjhdflhmjaadoor", sum := "a8261a461046744b21e754eb11128e0605b293939796e7853269d951cf7e9448", func := "seedcorn/seedcornlaw19.CoreReads", spec := "coreReads", unfollowed := true, recurses := true, named := ["seedcorn/token.words"], loops := true, apart := false, laid := [("seedcorn/token.words", laid_seedcorn_token_words)] }
def CoreReadsSaid : Prop := coreReadsRow.holds Tryd.pinned (OpenSpec.ofChange coreReadsSpec)

/-- ITS FALSE NEIGHBOUR: 'it returns false'. Refute it at one input. -/
def coreReadsWrong : ChangeSpec := { name := "coreReads", fn := fun _ => fun
  | [d1, d2, d3] => { results := [.lit (.bool false)], args := [d1, d2, d3] }
  | _ => none }
def CoreReadsWrongFalsely : Prop := coreReadsRow.holds Tryd.pinned (OpenSpec.ofChange coreReadsWrong)

/-- 'seedcornlaw19.CoreRights': WHATEVER THE INPUT: true; the input reads as it did. -/
def coreRightsSpec : ChangeSpec := { name := "coreRights", fn := fun _ => fun
  | [d1, d2] => { results := [.lit (.bool true)], args := [d1, d2] }
  | _ => none }
def coreRightsRow : OpenClaim := { program := "ytnfbbjhdflhmjaadoor", sum := "a8261a461046744b21e754eb11128e0605b293939796e7853269d951cf7e9448", func := "seedcorn/seedcornlaw19.CoreRights", spec := "coreRights", unfollowed := true, recurses := true, named := ["seedcorn/token.words"], loops := true, apart := false, laid := [("seedcorn/token.words", laid_seedcorn_token_words)] }
def CoreRightsSaid : Prop := coreRightsRow.holds Tryd.pinned (OpenSpec.ofChange coreRightsSpec)

/-- ITS FALSE NEIGHBOUR: 'it returns false'. Refute it at one input. -/
def coreRightsWrong : ChangeSpec := { name := "coreRights", fn := fun _ => fun
  | [d1, d2] => { results := [.lit (.bool false)], args := [d1, d2] }
  | _ => none }
def CoreRightsWrongFalsely : Prop := coreRightsRow.holds Tryd.pinned (OpenSpec.ofChange coreRightsWrong)

/- THE SECOND FORM. 'bulk': how many values and letters a reading holds, each counted each time it is reached (what is shared counts as often as it is met; a slice's spare places count too). A statement '..UptoSaid' is the law's where the arguments, and the package variables that the reading takes, are together of bulk at most 1048576: NARROWER than '..Said'. Prove '..Said' where nothing that the law and all that it calls make is longer than what came in: it says more and counts as full. Else prove '..UptoSaid'. A law counts once. -/
mutual
def uptoBulk {H : Type} : DataW H → Nat
  | .lit (.string bytes) => bytes.length + 1
  | .lit _ => 1
  | .nil => 1
  | .ptr d => uptoBulk d + 1
  | .slice elems spare => uptoBulkAll elems + uptoBulkAll spare + 1
  | .agg parts => uptoBulkAll parts + 1
  | .iface _ d => uptoBulk d + 1
  | .map entries => uptoBulkEntries entries + 1
  | .held _ => 1
def uptoBulkAll {H : Type} : List (DataW H) → Nat
  | [] => 0
  | d :: r => uptoBulk d + uptoBulkAll r
def uptoBulkEntries {H : Type} : List (Lit × DataW H) → Nat
  | [] => 0
  | x :: r => uptoBulkEntry x + uptoBulkEntries r
def uptoBulkEntry {H : Type} : Lit × DataW H → Nat
  | (.string bytes, d) => bytes.length + uptoBulk d + 1
  | (_, d) => uptoBulk d + 1
 end
def uptoSmall : (H : Type) → List (DataW H) → Bool := fun _ ds => decide (uptoBulkAll ds ≤ 1048576)
def OpenSpec.upto (s : _root_.Go.ChangeSpec) : _root_.Go.OpenSpec := { _root_.Go.OpenSpec.ofChange s with cond := some uptoSmall }

/-- 'seedcornlaw19.CoreRuns', WHERE WHAT IT READS IS OF BULK AT MOST 1048576: true; the input reads as it did. -/
def coreRunsUptoRow : OpenClaim := { program := "ytnfbbjhdflhmjaadoor", sum := "a8261a461046744b21e754eb11128e0605b293939796e7853269d951cf7e9448", func := "seedcorn/seedcornlaw19.CoreRuns", spec := "coreRuns", unfollowed := true, recurses := true, named := ["seedcorn/token.words"], loops := true, apart := false, laid := [("seedcorn/token.words", laid_seedcorn_token_words)], narrowed := true }
def CoreRunsUptoSaid : Prop := coreRunsUptoRow.holds Tryd.pinned (OpenSpec.upto coreRunsSpec)

/-- 'seedcornlaw19.CoreStays', WHERE WHAT IT READS IS OF BULK AT MOST 1048576: true; the input reads as it did. -/
def coreStaysUptoRow : OpenClaim := { program := "ytnfbbjhdflhmjaadoor", sum := "a8261a461046744b21e754eb11128e0605b293939796e7853269d951cf7e9448", func := "seedcorn/seedcornlaw19.CoreStays", spec := "coreStays", unfollowed := true, recurses := true, named := ["seedcorn/token.words"], loops := true, apart := false, laid := [("seedcorn/token.words", laid_seedcorn_token_words)], narrowed := true }
def CoreStaysUptoSaid : Prop := coreStaysUptoRow.holds Tryd.pinned (OpenSpec.upto coreStaysSpec)

/-- 'seedcornlaw19.CoreReads', WHERE WHAT IT READS IS OF BULK AT MOST 1048576: true; the input reads as it did. -/
def coreReadsUptoRow : OpenClaim := { program := "ytnfbbjhdflhmjaadoor", sum := "a8261a461046744b21e754eb11128e0605b293939796e7853269d951cf7e9448", func := "seedcorn/seedcornlaw19.CoreReads", spec := "coreReads", unfollowed := true, recurses := true, named := ["seedcorn/token.words"], loops := true, apart := false, laid := [("seedcorn/token.words", laid_seedcorn_token_words)], narrowed := true }
def CoreReadsUptoSaid : Prop := coreReadsUptoRow.holds Tryd.pinned (OpenSpec.upto coreReadsSpec)

/-- 'seedcornlaw19.CoreRights', WHERE WHAT IT READS IS OF BULK AT MOST 1048576: true; the input reads as it did. -/
def coreRightsUptoRow : OpenClaim := { program := "ytnfbbjhdflhmjaadoor", sum := "a8261a461046744b21e754eb11128e0605b293939796e7853269d951cf7e9448", func := "seedcorn/seedcornlaw19.CoreRights", spec := "coreRights", unfollowed := true, recurses := true, named := ["seedcorn/token.words"], loops := true, apart := false, laid := [("seedcorn/token.words", laid_seedcorn_token_words)], narrowed := true }
def CoreRightsUptoSaid : Prop := coreRightsUptoRow.holds Tryd.pinned (OpenSpec.upto coreRightsSpec)

end Rows
end Go.Proofs.YtnfbbjhdflhmjaaDoor
