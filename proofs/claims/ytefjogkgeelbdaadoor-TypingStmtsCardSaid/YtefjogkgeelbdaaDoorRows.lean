/-
  NARROWER THAN 'FOR EVERY INPUT', by the rows' own cells (each row's printed sentence says how): TypingExpr: loops, laid · TypingCheck: loops, laid · TypingSound: loops, laid · TypingKinds: loops, laid · TypingStmts: loops, laid · TypingNames: loops, laid · TypingParts: loops, laid.
  DERIVED. THE GIVEN ROWS OF THIS SEAT. 7 by the template 'for every input the law returns true; each argument reads behind the call as it read before'; 0 by the template 'total and deterministic' (their statements: YtefjogkgeelbdaaDoorTotals.lean).
  GIVEN WITH THE SEED: the statements are not yours to turn. If you find one false, say at which input.
  Laid BY PROGRAM, IN A SANDBOX (cutbox-rows.mjs): the forced cells as the released guide's own fill.sh prints them over the translation 8ead8e34471da516… (all of the seat's roots in one cut). By AI agents, Wed Nov 11 2026. No macro, syntax, notation, axiom, sorry.
-/
import Derived.Test.YtefjogkgeelbdaaDoorChecked
import GoSem.Claim
import GoSem.ClaimJoined
import GoSem.ClaimMapViews
import Derived.JoinedTies
import Derived.KernelRfl
namespace Go.Proofs.YtefjogkgeelbdaaDoor
/- THE CELL 'sum', in the pinned program and in every row, IS THE sha256 OF THE DUMP (.gsa) THAT YtefjogkgeelbdaaDoorProg.lean LOADS. Nothing in Lean hashes anything: it is a label: what it is worth is what the hold of that sum in a sandbox is worth. -/
noncomputable def Tryd.pinned : Pinned := { name := "ytefjogkgeelbdaadoor", sum := "8ead8e34471da5162ec9015e402d6188f2531352e087dce4a78d483e10d7cfc0", checked := Tryd.checked }
namespace Rows
def none {H : Type} : Left H := { results := [], args := [] }

/- WHAT THE LISTED PACKAGE-LEVEL VARIABLES READ AS WHEN THE CALL BEGINS. Each datum BY PROGRAM (the guide's laid-datum.mjs) off the statement by which the dump's own 'gosem.cut.vars' lays the variable. In a bare row this is a premise. The card (YtefjogkgeelbdaaDoorCards.lean) ties it to the program's text. -/
def laid_seedcorn_token_words {H : Type} : DataW H := .agg [.lit (.string [118, 97, 114]), .lit (.string [97, 114, 114, 97, 121]), .lit (.string [102, 117, 110, 99]), .lit (.string [119, 111, 114, 100]), .lit (.string [105, 102]), .lit (.string [101, 108, 115, 101]), .lit (.string [119, 104, 105, 108, 101]), .lit (.string [114, 101, 116, 117, 114, 110]), .lit (.string [112, 117, 116]), .lit (.string [103, 101, 116])]

/-- 'seedcornlaw17.TypingExpr': WHATEVER THE INPUT: true; the input reads as it did. -/
def typingExprSpec : ChangeSpec := { name := "typingExpr", fn := fun _ => fun
  | [d1, d2] => { results := [.lit (.bool true)], args := [d1, d2] }
  | _ => none }
def typingExprRow : OpenClaim := { program := "ytefjogkgeelbdaadoor", sum := "8ead8e34471da5162ec9015e402d6188f2531352e087dce4a78d483e10d7cfc0", func := "seedcorn/seedcornlaw17.TypingExpr", spec := "typingExpr", unfollowed := true, recurses := true, named := ["seedcorn/token.words"], loops := true, apart := false, laid := [("seedcorn/token.words", laid_seedcorn_token_words)] }
def TypingExprSaid : Prop := typingExprRow.holds Tryd.pinned (OpenSpec.ofChange typingExprSpec)

/-- ITS FALSE NEIGHBOUR: 'it returns false'. Refute it at one input. -/
def typingExprWrong : ChangeSpec := { name := "typingExpr", fn := fun _ => fun
  | [d1, d2] => { results := [.lit (.bool false)], args := [d1, d2] }
  | _ => none }
def TypingExprWrongFalsely : Prop := typingExprRow.holds Tryd.pinned (OpenSpec.ofChange typingExprWrong)

/-- 'seedcornlaw17.TypingCheck': WHATEVER THE INPUT: true; the input reads as it did. -/
def typingCheckSpec : ChangeSpec := { name := "typingCheck", fn := fun _ => fun
  | [d] => { results := [.lit (.bool true)], args := [d] }
  | _ => none }
def typingCheckRow : OpenClaim := { program := "ytefjogkgeelbdaadoor", sum := "8ead8e34471da5162ec9015e402d6188f2531352e087dce4a78d483e10d7cfc0", func := "seedcorn/seedcornlaw17.TypingCheck", spec := "typingCheck", unfollowed := true, recurses := true, named := ["seedcorn/token.words"], loops := true, apart := false, laid := [("seedcorn/token.words", laid_seedcorn_token_words)] }
def TypingCheckSaid : Prop := typingCheckRow.holds Tryd.pinned (OpenSpec.ofChange typingCheckSpec)

/-- ITS FALSE NEIGHBOUR: 'it returns false'. Refute it at one input. -/
def typingCheckWrong : ChangeSpec := { name := "typingCheck", fn := fun _ => fun
  | [d] => { results := [.lit (.bool false)], args := [d] }
  | _ => none }
def TypingCheckWrongFalsely : Prop := typingCheckRow.holds Tryd.pinned (OpenSpec.ofChange typingCheckWrong)

/-- 'seedcornlaw17.TypingSound': WHATEVER THE INPUT: true; the input reads as it did. -/
def typingSoundSpec : ChangeSpec := { name := "typingSound", fn := fun _ => fun
  | [d] => { results := [.lit (.bool true)], args := [d] }
  | _ => none }
def typingSoundRow : OpenClaim := { program := "ytefjogkgeelbdaadoor", sum := "8ead8e34471da5162ec9015e402d6188f2531352e087dce4a78d483e10d7cfc0", func := "seedcorn/seedcornlaw17.TypingSound", spec := "typingSound", unfollowed := true, recurses := true, named := ["seedcorn/token.words"], loops := true, apart := false, laid := [("seedcorn/token.words", laid_seedcorn_token_words)] }
def TypingSoundSaid : Prop := typingSoundRow.holds Tryd.pinned (OpenSpec.ofChange typingSoundSpec)

/-- ITS FALSE NEIGHBOUR: 'it returns false'. Refute it at one input. -/
def typingSoundWrong : ChangeSpec := { name := "typingSound", fn := fun _ => fun
  | [d] => { results := [.lit (.bool false)], args := [d] }
  | _ => none }
def TypingSoundWrongFalsely : Prop := typingSoundRow.holds Tryd.pinned (OpenSpec.ofChange typingSoundWrong)

/-- 'seedcornlaw17.TypingKinds': WHATEVER THE INPUT: true; the input reads as it did. -/
def typingKindsSpec : ChangeSpec := { name := "typingKinds", fn := fun _ => fun
  | [d1, d2] => { results := [.lit (.bool true)], args := [d1, d2] }
  | _ => none }
def typingKindsRow : OpenClaim := { program := "ytefjogkgeelbdaadoor", sum := "8ead8e34471da5162ec9015e402d6188f2531352e087dce4a78d483e10d7cfc0", func := "seedcorn/seedcornlaw17.TypingKinds", spec := "typingKinds", unfollowed := true, recurses := true, named := ["seedcorn/token.words"], loops := true, apart := false, laid := [("seedcorn/token.words", laid_seedcorn_token_words)] }
def TypingKindsSaid : Prop := typingKindsRow.holds Tryd.pinned (OpenSpec.ofChange typingKindsSpec)

/-- ITS FALSE NEIGHBOUR: 'it returns false'. Refute it at one input. -/
def typingKindsWrong : ChangeSpec := { name := "typingKinds", fn := fun _ => fun
  | [d1, d2] => { results := [.lit (.bool false)], args := [d1, d2] }
  | _ => none }
def TypingKindsWrongFalsely : Prop := typingKindsRow.holds Tryd.pinned (OpenSpec.ofChange typingKindsWrong)

/-- 'seedcornlaw17.TypingStmts': WHATEVER THE INPUT: true; the input reads as it did. -/
def typingStmtsSpec : ChangeSpec := { name := "typingStmts", fn := fun _ => fun
  | [d1, d2, d3] => { results := [.lit (.bool true)], args := [d1, d2, d3] }
  | _ => none }
def typingStmtsRow : OpenClaim := { program := "ytefjogkgeelbdaadoor", sum := "8ead8e34471da5162ec9015e402d6188f2531352e087dce4a78d483e10d7cfc0", func := "seedcorn/seedcornlaw17.TypingStmts", spec := "typingStmts", unfollowed := true, recurses := true, named := ["seedcorn/token.words"], loops := true, apart := false, laid := [("seedcorn/token.words", laid_seedcorn_token_words)] }
def TypingStmtsSaid : Prop := typingStmtsRow.holds Tryd.pinned (OpenSpec.ofChange typingStmtsSpec)

/-- ITS FALSE NEIGHBOUR: 'it returns false'. Refute it at one input. -/
def typingStmtsWrong : ChangeSpec := { name := "typingStmts", fn := fun _ => fun
  | [d1, d2, d3] => { results := [.lit (.bool false)], args := [d1, d2, d3] }
  | _ => none }
def TypingStmtsWrongFalsely : Prop := typingStmtsRow.holds Tryd.pinned (OpenSpec.ofChange typingStmtsWrong)

/-- 'seedcornlaw17.TypingNames': WHATEVER THE INPUT: true; the input reads as it did. -/
def typingNamesSpec : ChangeSpec := { name := "typingNames", fn := fun _ => fun
  | [d1, d2] => { results := [.lit (.bool true)], args := [d1, d2] }
  | _ => none }
def typingNamesRow : OpenClaim := { program := "ytefjogkgeelbdaadoor", sum := "8ead8e34471da5162ec9015e402d6188f2531352e087dce4a78d483e10d7cfc0", func := "seedcorn/seedcornlaw17.TypingNames", spec := "typingNames", unfollowed := true, recurses := true, named := ["seedcorn/token.words"], loops := true, apart := false, laid := [("seedcorn/token.words", laid_seedcorn_token_words)] }
def TypingNamesSaid : Prop := typingNamesRow.holds Tryd.pinned (OpenSpec.ofChange typingNamesSpec)

/-- ITS FALSE NEIGHBOUR: 'it returns false'. Refute it at one input. -/
def typingNamesWrong : ChangeSpec := { name := "typingNames", fn := fun _ => fun
  | [d1, d2] => { results := [.lit (.bool false)], args := [d1, d2] }
  | _ => none }
def TypingNamesWrongFalsely : Prop := typingNamesRow.holds Tryd.pinned (OpenSpec.ofChange typingNamesWrong)

/-- 'seedcornlaw17.TypingParts': WHATEVER THE INPUT: true; the input reads as it did. -/
def typingPartsSpec : ChangeSpec := { name := "typingParts", fn := fun _ => fun
  | [d1, d2, d3] => { results := [.lit (.bool true)], args := [d1, d2, d3] }
  | _ => none }
def typingPartsRow : OpenClaim := { program := "ytefjogkgeelbdaadoor", sum := "8ead8e34471da5162ec9015e402d6188f2531352e087dce4a78d483e10d7cfc0", func := "seedcorn/seedcornlaw17.TypingParts", spec := "typingParts", unfollowed := true, recurses := true, named := ["seedcorn/token.words"], loops := true, apart := false, laid := [("seedcorn/token.words", laid_seedcorn_token_words)] }
def TypingPartsSaid : Prop := typingPartsRow.holds Tryd.pinned (OpenSpec.ofChange typingPartsSpec)

/-- ITS FALSE NEIGHBOUR: 'it returns false'. Refute it at one input. -/
def typingPartsWrong : ChangeSpec := { name := "typingParts", fn := fun _ => fun
  | [d1, d2, d3] => { results := [.lit (.bool false)], args := [d1, d2, d3] }
  | _ => none }
def TypingPartsWrongFalsely : Prop := typingPartsRow.holds Tryd.pinned (OpenSpec.ofChange typingPartsWrong)

/- THE SECOND FORM. 'bulk': how many values and letters a reading holds, each counted each time it is reached (what is shared counts as often as it is met; a slice's spare places count too). A statement '..UptoSaid' is the law's where the arguments, and the package variables that the reading takes, are together of bulk at most 1048576: NARROWER than '..Said'. Prove '..Said' where nothing that the law and all that it calls make is longer than what came in: it says more and counts as full. Else prove '..UptoSaid'. A law counts once. -/
mutual
def uptoBulk {H : Type} : DataW H → Nat
  | .lit (.string bytes) => bytes.length + 1
  | .lit _ => 1
  | .nil => 1
  | .ptr d => uptoBulk d + 1
  | .slice elems spare => uptoBulkAll elems + uptoBulkAll spare + 1
  | .agg parts => uptoBulkAll parts + 1
  | .iface _ d => uptoBulk d + 1
  | .map entries => uptoBulkEntries entries + 1
  | .held _ => 1
def uptoBulkAll {H : Type} : List (DataW H) → Nat
  | [] => 0
  | d :: r => uptoBulk d + uptoBulkAll r
def uptoBulkEntries {H : Type} : List (Lit × DataW H) → Nat
  | [] => 0
  | x :: r => uptoBulkEntry x + uptoBulkEntries r
def uptoBulkEntry {H : Type} : Lit × DataW H → Nat
  | (.string bytes, d) => bytes.length + uptoBulk d + 1
  | (_, d) => uptoBulk d + 1
 end
def uptoSmall : (H : Type) → List (DataW H) → Bool := fun _ ds => decide (uptoBulkAll ds ≤ 1048576)
def OpenSpec.upto (s : _root_.Go.ChangeSpec) : _root_.Go.OpenSpec := { _root_.Go.OpenSpec.ofChange s with cond := some uptoSmall }

/-- 'seedcornlaw17.TypingExpr', WHERE WHAT IT READS IS OF BULK AT MOST 1048576: true; the input reads as it did. -/
def typingExprUptoRow : OpenClaim := { program := "ytefjogkgeelbdaadoor", sum := "8ead8e34471da5162ec9015e402d6188f2531352e087dce4a78d483e10d7cfc0", func := "seedcorn/seedcornlaw17.TypingExpr", spec := "typingExpr", unfollowed := true, recurses := true, named := ["seedcorn/token.words"], loops := true, apart := false, laid := [("seedcorn/token.words", laid_seedcorn_token_words)], narrowed := true }
def TypingExprUptoSaid : Prop := typingExprUptoRow.holds Tryd.pinned (OpenSpec.upto typingExprSpec)

/-- 'seedcornlaw17.TypingCheck', WHERE WHAT IT READS IS OF BULK AT MOST 1048576: true; the input reads as it did. -/
def typingCheckUptoRow : OpenClaim := { program := "ytefjogkgeelbdaadoor", sum := "8ead8e34471da5162ec9015e402d6188f2531352e087dce4a78d483e10d7cfc0", func := "seedcorn/seedcornlaw17.TypingCheck", spec := "typingCheck", unfollowed := true, recurses := true, named := ["seedcorn/token.words"], loops := true, apart := false, laid := [("seedcorn/token.words", laid_seedcorn_token_words)], narrowed := true }
def TypingCheckUptoSaid : Prop := typingCheckUptoRow.holds Tryd.pinned (OpenSpec.upto typingCheckSpec)

/-- 'seedcornlaw17.TypingSound', WHERE WHAT IT READS IS OF BULK AT MOST 1048576: true; the input reads as it did. -/
def typingSoundUptoRow : OpenClaim := { program := "ytefjogkgeelbdaadoor", sum := "8ead8e34471da5162ec9015e402d6188f2531352e087dce4a78d483e10d7cfc0", func := "seedcorn/seedcornlaw17.TypingSound", spec := "typingSound", unfollowed := true, recurses := true, named := ["seedcorn/token.words"], loops := true, apart := false, laid := [("seedcorn/token.words", laid_seedcorn_token_words)], narrowed := true }
def TypingSoundUptoSaid : Prop := typingSoundUptoRow.holds Tryd.pinned (OpenSpec.upto typingSoundSpec)

/-- 'seedcornlaw17.TypingKinds', WHERE WHAT IT READS IS OF BULK AT MOST 1048576: true; the input reads as it did. -/
def typingKindsUptoRow : OpenClaim := { program := "ytefjogkgeelbdaadoor", sum := "8ead8e34471da5162ec9015e402d6188f2531352e087dce4a78d483e10d7cfc0", func := "seedcorn/seedcornlaw17.TypingKinds", spec := "typingKinds", unfollowed := true, recurses := true, named := ["seedcorn/token.words"], loops := true, apart := false, laid := [("seedcorn/token.words", laid_seedcorn_token_words)], narrowed := true }
def TypingKindsUptoSaid : Prop := typingKindsUptoRow.holds Tryd.pinned (OpenSpec.upto typingKindsSpec)

/-- 'seedcornlaw17.TypingStmts', WHERE WHAT IT READS IS OF BULK AT MOST 1048576: true; the input reads as it did. -/
def typingStmtsUptoRow : OpenClaim := { program := "ytefjogkgeelbdaadoor", sum := "8ead8e34471da5162ec9015e402d6188f2531352e087dce4a78d483e10d7cfc0", func := "seedcorn/seedcornlaw17.TypingStmts", spec := "typingStmts", unfollowed := true, recurses := true, named := ["seedcorn/token.words"], loops := true, apart := false, laid := [("seedcorn/token.words", laid_seedcorn_token_words)], narrowed := true }
def TypingStmtsUptoSaid : Prop := typingStmtsUptoRow.holds Tryd.pinned (OpenSpec.upto typingStmtsSpec)

/-- 'seedcornlaw17.TypingNames', WHERE WHAT IT READS IS OF BULK AT MOST 1048576: true; the input reads as it did. -/
def typingNamesUptoRow : OpenClaim := { program := "ytefjogkgeelbdaadoor", sum := "8ead8e34471da5162ec9015e402d6188f2531352e087dce4a78d483e10d7cfc0", func := "seedcorn/seedcornlaw17.TypingNames", spec := "typingNames", unfollowed := true, recurses := true, named := ["seedcorn/token.words"], loops := true, apart := false, laid := [("seedcorn/token.words", laid_seedcorn_token_words)], narrowed := true }
def TypingNamesUptoSaid : Prop := typingNamesUptoRow.holds Tryd.pinned (OpenSpec.upto typingNamesSpec)

/-- 'seedcornlaw17.TypingParts', WHERE WHAT IT READS IS OF BULK AT MOST 1048576: true; the input reads as it did. -/
def typingPartsUptoRow : OpenClaim := { program := "ytefjogkgeelbdaadoor", sum := "8ead8e34471da5162ec9015e402d6188f2531352e087dce4a78d483e10d7cfc0", func := "seedcorn/seedcornlaw17.TypingParts", spec := "typingParts", unfollowed := true, recurses := true, named := ["seedcorn/token.words"], loops := true, apart := false, laid := [("seedcorn/token.words", laid_seedcorn_token_words)], narrowed := true }
def TypingPartsUptoSaid : Prop := typingPartsUptoRow.holds Tryd.pinned (OpenSpec.upto typingPartsSpec)

end Rows
end Go.Proofs.YtefjogkgeelbdaaDoor
