/-
  NARROWER THAN 'FOR EVERY INPUT', by the rows' own cells (each row's printed sentence says how): CoreSound: loops, laid · CoreOf: loops, laid · CoreMeans: loops, laid.
  DERIVED. THE GIVEN ROWS OF THIS SEAT. 3 by the template 'for every input the law returns true; each argument reads behind the call as it read before'; 0 by the template 'total and deterministic' (their statements: YtnfbbjhdflhmjaaGreatDoorTotals.lean).
  GIVEN WITH THE SEED: the statements are not yours to turn. If you find one false, say at which input.
  Laid BY PROGRAM, IN A SANDBOX (cutbox-rows.mjs): the forced cells as the released guide's own fill.sh prints them over the translation dd415edd5748e0da… (all of the seat's roots in one cut). By AI agents, Wed Nov 11 2026. No macro, syntax, notation, axiom, sorry.
-/
import Derived.Test.YtnfbbjhdflhmjaaGreatDoorChecked
import GoSem.Claim
import GoSem.ClaimJoined
import GoSem.ClaimMapViews
import Derived.JoinedTies
import Derived.KernelRfl
namespace Go.Proofs.YtnfbbjhdflhmjaaGreatDoor
/- THE CELL 'sum', in the pinned program and in every row, IS THE sha256 OF THE DUMP (.gsa) THAT YtnfbbjhdflhmjaaGreatDoorProg.lean LOADS. Nothing in Lean hashes anything: it is a label: what it is worth is what the hold of that sum in a sandbox is worth. -/
noncomputable def Tryz.pinned : Pinned := { name := "ytnfbbjhdflhmjaagreatdoor", sum := "dd415edd5748e0dafc66af50f0c8b9ee38cac252aa4c38c5737bdd26cffefab9", checked := Tryz.checked }
namespace Rows
def none {H : Type} : Left H := { results := [], args := [] }

/- WHAT THE LISTED PACKAGE-LEVEL VARIABLES READ AS WHEN THE CALL BEGINS. Each datum BY PROGRAM (the guide's laid-datum.mjs) off the statement by which the dump's own 'gosem.cut.vars' lays the variable. In a bare row this is a premise. The card (YtnfbbjhdflhmjaaGreatDoorCards.lean) ties it to the program's text. -/
def laid_seedcorn_token_words {H : Type} : DataW H := .agg [.lit (.string [118, 97, 114]), .lit (.string [97, 114, 114, 97, 121]), .lit (.string [102, 117, 110, 99]), .lit (.string [119, 111, 114, 100]), .lit (.string [105, 102]), .lit (.string [101, 108, 115, 101]), .lit (.string [119, 104, 105, 108, 101]), .lit (.string [114, 101, 116, 117, 114, 110]), .lit (.string [112, 117, 116]), .lit (.string [103, 101, 116])]

/-- 'seedcornlaw19.CoreSound': WHATEVER THE INPUT: true; the input reads as it did. -/
def coreSoundSpec : ChangeSpec := { name := "coreSound", fn := fun _ => fun
  | [d] => { results := [.lit (.bool true)], args := [d] }
  | _ => none }
def coreSoundRow : OpenClaim := { program := "ytnfbbjhdflhmjaagreatdoor", sum := "dd415edd5748e0dafc66af50f0c8b9ee38cac252aa4c38c5737bdd26cffefab9", func := "seedcorn/seedcornlaw19.CoreSound", spec := "coreSound", unfollowed := true, recurses := true, named := ["seedcorn/token.words"], loops := true, apart := false, laid := [("seedcorn/token.words", laid_seedcorn_token_words)] }
def CoreSoundSaid : Prop := coreSoundRow.holds Tryz.pinned (OpenSpec.ofChange coreSoundSpec)

/-- ITS FALSE NEIGHBOUR: 'it returns false'. Refute it at one input. -/
def coreSoundWrong : ChangeSpec := { name := "coreSound", fn := fun _ => fun
  | [d] => { results := [.lit (.bool false)], args := [d] }
  | _ => none }
def CoreSoundWrongFalsely : Prop := coreSoundRow.holds Tryz.pinned (OpenSpec.ofChange coreSoundWrong)

/-- 'seedcornlaw19.CoreOf': WHATEVER THE INPUT: true; the input reads as it did. -/
def coreOfSpec : ChangeSpec := { name := "coreOf", fn := fun _ => fun
  | [d] => { results := [.lit (.bool true)], args := [d] }
  | _ => none }
def coreOfRow : OpenClaim := { program := "ytnfbbjhdflhmjaagreatdoor", sum := "dd415edd5748e0dafc66af50f0c8b9ee38cac252aa4c38c5737bdd26cffefab9", func := "seedcorn/seedcornlaw19.CoreOf", spec := "coreOf", unfollowed := true, recurses := true, named := ["seedcorn/token.words"], loops := true, apart := false, laid := [("seedcorn/token.words", laid_seedcorn_token_words)] }
def CoreOfSaid : Prop := coreOfRow.holds Tryz.pinned (OpenSpec.ofChange coreOfSpec)

/-- ITS FALSE NEIGHBOUR: 'it returns false'. Refute it at one input. -/
def coreOfWrong : ChangeSpec := { name := "coreOf", fn := fun _ => fun
  | [d] => { results := [.lit (.bool false)], args := [d] }
  | _ => none }
def CoreOfWrongFalsely : Prop := coreOfRow.holds Tryz.pinned (OpenSpec.ofChange coreOfWrong)

/-- 'seedcornlaw19.CoreMeans': WHATEVER THE INPUT: true; the input reads as it did. -/
def coreMeansSpec : ChangeSpec := { name := "coreMeans", fn := fun _ => fun
  | [d1, d2, d3] => { results := [.lit (.bool true)], args := [d1, d2, d3] }
  | _ => none }
def coreMeansRow : OpenClaim := { program := "ytnfbbjhdflhmjaagreatdoor", sum := "dd415edd5748e0dafc66af50f0c8b9ee38cac252aa4c38c5737bdd26cffefab9", func := "seedcorn/seedcornlaw19.CoreMeans", spec := "coreMeans", unfollowed := true, recurses := true, named := ["seedcorn/token.words"], loops := true, apart := false, laid := [("seedcorn/token.words", laid_seedcorn_token_words)] }
def CoreMeansSaid : Prop := coreMeansRow.holds Tryz.pinned (OpenSpec.ofChange coreMeansSpec)

/-- ITS FALSE NEIGHBOUR: 'it returns false'. Refute it at one input. -/
def coreMeansWrong : ChangeSpec := { name := "coreMeans", fn := fun _ => fun
  | [d1, d2, d3] => { results := [.lit (.bool false)], args := [d1, d2, d3] }
  | _ => none }
def CoreMeansWrongFalsely : Prop := coreMeansRow.holds Tryz.pinned (OpenSpec.ofChange coreMeansWrong)

/- THE SECOND FORM. 'bulk': how many values and letters a reading holds, each counted each time it is reached (what is shared counts as often as it is met; a slice's spare places count too). A statement '..UptoSaid' is the law's where the arguments, and the package variables that the reading takes, are together of bulk at most 1048576: NARROWER than '..Said'. Prove '..Said' where nothing that the law and all that it calls make is longer than what came in: it says more and counts as full. Else prove '..UptoSaid'. A law counts once. -/
mutual
def uptoBulk {H : Type} : DataW H → Nat
  | .lit (.string bytes) => bytes.length + 1
  | .lit _ => 1
  | .nil => 1
  | .ptr d => uptoBulk d + 1
  | .slice elems spare => uptoBulkAll elems + uptoBulkAll spare + 1
  | .agg parts => uptoBulkAll parts + 1
  | .iface _ d => uptoBulk d + 1
  | .map entries => uptoBulkEntries entries + 1
  | .held _ => 1
def uptoBulkAll {H : Type} : List (DataW H) → Nat
  | [] => 0
  | d :: r => uptoBulk d + uptoBulkAll r
def uptoBulkEntries {H : Type} : List (Lit × DataW H) → Nat
  | [] => 0
  | x :: r => uptoBulkEntry x + uptoBulkEntries r
def uptoBulkEntry {H : Type} : Lit × DataW H → Nat
  | (.string bytes, d) => bytes.length + uptoBulk d + 1
  | (_, d) => uptoBulk d + 1
 end
def uptoSmall : (H : Type) → List (DataW H) → Bool := fun _ ds => decide (uptoBulkAll ds ≤ 1048576)
def OpenSpec.upto (s : _root_.Go.ChangeSpec) : _root_.Go.OpenSpec := { _root_.Go.OpenSpec.ofChange s with cond := some uptoSmall }

/-- 'seedcornlaw19.CoreSound', WHERE WHAT IT READS IS OF BULK AT MOST 1048576: true; the input reads as it did. -/
def coreSoundUptoRow : OpenClaim := { program := "ytnfbbjhdflhmjaagreatdoor", sum := "dd415edd5748e0dafc66af50f0c8b9ee38cac252aa4c38c5737bdd26cffefab9", func := "seedcorn/seedcornlaw19.CoreSound", spec := "coreSound", unfollowed := true, recurses := true, named := ["seedcorn/token.words"], loops := true, apart := false, laid := [("seedcorn/token.words", laid_seedcorn_token_words)], narrowed := true }
def CoreSoundUptoSaid : Prop := coreSoundUptoRow.holds Tryz.pinned (OpenSpec.upto coreSoundSpec)

/-- 'seedcornlaw19.CoreOf', WHERE WHAT IT READS IS OF BULK AT MOST 1048576: true; the input reads as it did. -/
def coreOfUptoRow : OpenClaim := { program := "ytnfbbjhdflhmjaagreatdoor", sum := "dd415edd5748e0dafc66af50f0c8b9ee38cac252aa4c38c5737bdd26cffefab9", func := "seedcorn/seedcornlaw19.CoreOf", spec := "coreOf", unfollowed := true, recurses := true, named := ["seedcorn/token.words"], loops := true, apart := false, laid := [("seedcorn/token.words", laid_seedcorn_token_words)], narrowed := true }
def CoreOfUptoSaid : Prop := coreOfUptoRow.holds Tryz.pinned (OpenSpec.upto coreOfSpec)

/-- 'seedcornlaw19.CoreMeans', WHERE WHAT IT READS IS OF BULK AT MOST 1048576: true; the input reads as it did. -/
def coreMeansUptoRow : OpenClaim := { program := "ytnfbbjhdflhmjaagreatdoor", sum := "dd415edd5748e0dafc66af50f0c8b9ee38cac252aa4c38c5737bdd26cffefab9", func := "seedcorn/seedcornlaw19.CoreMeans", spec := "coreMeans", unfollowed := true, recurses := true, named := ["seedcorn/token.words"], loops := true, apart := false, laid := [("seedcorn/token.words", laid_seedcorn_token_words)], narrowed := true }
def CoreMeansUptoSaid : Prop := coreMeansUptoRow.holds Tryz.pinned (OpenSpec.upto coreMeansSpec)

end Rows
end Go.Proofs.YtnfbbjhdflhmjaaGreatDoor
