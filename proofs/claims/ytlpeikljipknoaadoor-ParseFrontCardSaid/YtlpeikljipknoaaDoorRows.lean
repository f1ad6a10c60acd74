/-
  NARROWER THAN 'FOR EVERY INPUT', by the rows' own cells (each row's printed sentence says how): ParseProgs: laid · ParseExprs: laid · ParseBack: loops, laid · ParseBlanks: laid · ParseParens: laid · ParseStrengths: laid · ParseDeep: laid · ParseFront: loops, laid.
  DERIVED. THE GIVEN ROWS OF THIS SEAT. 8 by the template 'for every input the law returns true; each argument reads behind the call as it read before'; 0 by the template 'total and deterministic' (their statements: YtlpeikljipknoaaDoorTotals.lean).
  GIVEN WITH THE SEED: the statements are not yours to turn. If you find one false, say at which input.
  Laid BY PROGRAM, IN A SANDBOX (cutbox-rows.mjs): the forced cells as the released guide's own fill.sh prints them over the translation bc2d3f6f962250d9… (all of the seat's roots in one cut). By AI agents, Wed Nov 11 2026. No macro, syntax, notation, axiom, sorry.
-/
import Derived.Test.YtlpeikljipknoaaDoorChecked
import GoSem.Claim
import GoSem.ClaimJoined
import GoSem.ClaimMapViews
import Derived.JoinedTies
import Derived.KernelRfl
namespace Go.Proofs.YtlpeikljipknoaaDoor
/- THE CELL 'sum', in the pinned program and in every row, IS THE sha256 OF THE DUMP (.gsa) THAT YtlpeikljipknoaaDoorProg.lean LOADS. Nothing in Lean hashes anything: it is a label: what it is worth is what the hold of that sum in a sandbox is worth. -/
noncomputable def Tryd.pinned : Pinned := { name := "ytlpeikljipknoaadoor", sum := "bc2d3f6f962250d958ccc5da3dd4e22bd1397c57d20abb414d8c57f1beb8014c", checked := Tryd.checked }
namespace Rows
def none {H : Type} : Left H := { results := [], args := [] }

/- WHAT THE LISTED PACKAGE-LEVEL VARIABLES READ AS WHEN THE CALL BEGINS. Each datum BY PROGRAM (the guide's laid-datum.mjs) off the statement by which the dump's own 'gosem.cut.vars' lays the variable. In a bare row this is a premise. The card (YtlpeikljipknoaaDoorCards.lean) ties it to the program's text. -/
def laid_seedcorn_token_words {H : Type} : DataW H := .agg [.lit (.string [118, 97, 114]), .lit (.string [97, 114, 114, 97, 121]), .lit (.string [102, 117, 110, 99]), .lit (.string [119, 111, 114, 100]), .lit (.string [105, 102]), .lit (.string [101, 108, 115, 101]), .lit (.string [119, 104, 105, 108, 101]), .lit (.string [114, 101, 116, 117, 114, 110]), .lit (.string [112, 117, 116]), .lit (.string [103, 101, 116])]
def laid_seedcorn_token_signs {H : Type} : DataW H := .agg [.lit (.string [60, 60]), .lit (.string [62, 62]), .lit (.string [61, 61]), .lit (.string [38, 38]), .lit (.string [124, 124]), .lit (.string [40]), .lit (.string [41]), .lit (.string [123]), .lit (.string [125]), .lit (.string [91]), .lit (.string [93]), .lit (.string [59]), .lit (.string [44]), .lit (.string [61]), .lit (.string [43]), .lit (.string [45]), .lit (.string [42]), .lit (.string [47]), .lit (.string [37]), .lit (.string [38]), .lit (.string [124]), .lit (.string [94]), .lit (.string [60]), .lit (.string [33])]

/-- 'seedcornlaw15.ParseProgs': WHATEVER THE INPUT: true; the input reads as it did. -/
def parseProgsSpec : ChangeSpec := { name := "parseProgs", fn := fun _ => fun
  | [d] => { results := [.lit (.bool true)], args := [d] }
  | _ => none }
def parseProgsRow : OpenClaim := { program := "ytlpeikljipknoaadoor", sum := "bc2d3f6f962250d958ccc5da3dd4e22bd1397c57d20abb414d8c57f1beb8014c", func := "seedcorn/seedcornlaw15.ParseProgs", spec := "parseProgs", unfollowed := true, recurses := true, named := ["seedcorn/token.signs", "seedcorn/token.words"], apart := false, laid := [("seedcorn/token.words", laid_seedcorn_token_words), ("seedcorn/token.signs", laid_seedcorn_token_signs)] }
def ParseProgsSaid : Prop := parseProgsRow.holds Tryd.pinned (OpenSpec.ofChange parseProgsSpec)

/-- ITS FALSE NEIGHBOUR: 'it returns false'. Refute it at one input. -/
def parseProgsWrong : ChangeSpec := { name := "parseProgs", fn := fun _ => fun
  | [d] => { results := [.lit (.bool false)], args := [d] }
  | _ => none }
def ParseProgsWrongFalsely : Prop := parseProgsRow.holds Tryd.pinned (OpenSpec.ofChange parseProgsWrong)

/-- 'seedcornlaw15.ParseExprs': WHATEVER THE INPUT: true; the input reads as it did. -/
def parseExprsSpec : ChangeSpec := { name := "parseExprs", fn := fun _ => fun
  | [d] => { results := [.lit (.bool true)], args := [d] }
  | _ => none }
def parseExprsRow : OpenClaim := { program := "ytlpeikljipknoaadoor", sum := "bc2d3f6f962250d958ccc5da3dd4e22bd1397c57d20abb414d8c57f1beb8014c", func := "seedcorn/seedcornlaw15.ParseExprs", spec := "parseExprs", unfollowed := true, recurses := true, named := ["seedcorn/token.signs", "seedcorn/token.words"], apart := false, laid := [("seedcorn/token.words", laid_seedcorn_token_words), ("seedcorn/token.signs", laid_seedcorn_token_signs)] }
def ParseExprsSaid : Prop := parseExprsRow.holds Tryd.pinned (OpenSpec.ofChange parseExprsSpec)

/-- ITS FALSE NEIGHBOUR: 'it returns false'. Refute it at one input. -/
def parseExprsWrong : ChangeSpec := { name := "parseExprs", fn := fun _ => fun
  | [d] => { results := [.lit (.bool false)], args := [d] }
  | _ => none }
def ParseExprsWrongFalsely : Prop := parseExprsRow.holds Tryd.pinned (OpenSpec.ofChange parseExprsWrong)

/-- 'seedcornlaw15.ParseBack': WHATEVER THE INPUT: true; the input reads as it did. -/
def parseBackSpec : ChangeSpec := { name := "parseBack", fn := fun _ => fun
  | [d] => { results := [.lit (.bool true)], args := [d] }
  | _ => none }
def parseBackRow : OpenClaim := { program := "ytlpeikljipknoaadoor", sum := "bc2d3f6f962250d958ccc5da3dd4e22bd1397c57d20abb414d8c57f1beb8014c", func := "seedcorn/seedcornlaw15.ParseBack", spec := "parseBack", unfollowed := true, recurses := true, named := ["seedcorn/token.signs", "seedcorn/token.words"], loops := true, apart := false, laid := [("seedcorn/token.words", laid_seedcorn_token_words), ("seedcorn/token.signs", laid_seedcorn_token_signs)] }
def ParseBackSaid : Prop := parseBackRow.holds Tryd.pinned (OpenSpec.ofChange parseBackSpec)

/-- ITS FALSE NEIGHBOUR: 'it returns false'. Refute it at one input. -/
def parseBackWrong : ChangeSpec := { name := "parseBack", fn := fun _ => fun
  | [d] => { results := [.lit (.bool false)], args := [d] }
  | _ => none }
def ParseBackWrongFalsely : Prop := parseBackRow.holds Tryd.pinned (OpenSpec.ofChange parseBackWrong)

/-- 'seedcornlaw15.ParseBlanks': WHATEVER THE INPUT: true; the input reads as it did. -/
def parseBlanksSpec : ChangeSpec := { name := "parseBlanks", fn := fun _ => fun
  | [d] => { results := [.lit (.bool true)], args := [d] }
  | _ => none }
def parseBlanksRow : OpenClaim := { program := "ytlpeikljipknoaadoor", sum := "bc2d3f6f962250d958ccc5da3dd4e22bd1397c57d20abb414d8c57f1beb8014c", func := "seedcorn/seedcornlaw15.ParseBlanks", spec := "parseBlanks", unfollowed := true, recurses := true, named := ["seedcorn/token.signs", "seedcorn/token.words"], apart := false, laid := [("seedcorn/token.words", laid_seedcorn_token_words), ("seedcorn/token.signs", laid_seedcorn_token_signs)] }
def ParseBlanksSaid : Prop := parseBlanksRow.holds Tryd.pinned (OpenSpec.ofChange parseBlanksSpec)

/-- ITS FALSE NEIGHBOUR: 'it returns false'. Refute it at one input. -/
def parseBlanksWrong : ChangeSpec := { name := "parseBlanks", fn := fun _ => fun
  | [d] => { results := [.lit (.bool false)], args := [d] }
  | _ => none }
def ParseBlanksWrongFalsely : Prop := parseBlanksRow.holds Tryd.pinned (OpenSpec.ofChange parseBlanksWrong)

/-- 'seedcornlaw15.ParseParens': WHATEVER THE INPUT: true; the input reads as it did. -/
def parseParensSpec : ChangeSpec := { name := "parseParens", fn := fun _ => fun
  | [d1, d2] => { results := [.lit (.bool true)], args := [d1, d2] }
  | _ => none }
def parseParensRow : OpenClaim := { program := "ytlpeikljipknoaadoor", sum := "bc2d3f6f962250d958ccc5da3dd4e22bd1397c57d20abb414d8c57f1beb8014c", func := "seedcorn/seedcornlaw15.ParseParens", spec := "parseParens", unfollowed := true, recurses := true, named := ["seedcorn/token.signs", "seedcorn/token.words"], apart := false, laid := [("seedcorn/token.words", laid_seedcorn_token_words), ("seedcorn/token.signs", laid_seedcorn_token_signs)] }
def ParseParensSaid : Prop := parseParensRow.holds Tryd.pinned (OpenSpec.ofChange parseParensSpec)

/-- ITS FALSE NEIGHBOUR: 'it returns false'. Refute it at one input. -/
def parseParensWrong : ChangeSpec := { name := "parseParens", fn := fun _ => fun
  | [d1, d2] => { results := [.lit (.bool false)], args := [d1, d2] }
  | _ => none }
def ParseParensWrongFalsely : Prop := parseParensRow.holds Tryd.pinned (OpenSpec.ofChange parseParensWrong)

/-- 'seedcornlaw15.ParseStrengths': WHATEVER THE INPUT: true; the input reads as it did. -/
def parseStrengthsSpec : ChangeSpec := { name := "parseStrengths", fn := fun _ => fun
  | [d1, d2] => { results := [.lit (.bool true)], args := [d1, d2] }
  | _ => none }
def parseStrengthsRow : OpenClaim := { program := "ytlpeikljipknoaadoor", sum := "bc2d3f6f962250d958ccc5da3dd4e22bd1397c57d20abb414d8c57f1beb8014c", func := "seedcorn/seedcornlaw15.ParseStrengths", spec := "parseStrengths", unfollowed := true, recurses := true, named := ["seedcorn/token.signs", "seedcorn/token.words"], apart := false, laid := [("seedcorn/token.words", laid_seedcorn_token_words), ("seedcorn/token.signs", laid_seedcorn_token_signs)] }
def ParseStrengthsSaid : Prop := parseStrengthsRow.holds Tryd.pinned (OpenSpec.ofChange parseStrengthsSpec)

/-- ITS FALSE NEIGHBOUR: 'it returns false'. Refute it at one input. -/
def parseStrengthsWrong : ChangeSpec := { name := "parseStrengths", fn := fun _ => fun
  | [d1, d2] => { results := [.lit (.bool false)], args := [d1, d2] }
  | _ => none }
def ParseStrengthsWrongFalsely : Prop := parseStrengthsRow.holds Tryd.pinned (OpenSpec.ofChange parseStrengthsWrong)

/-- 'seedcornlaw15.ParseDeep': WHATEVER THE INPUT: true; the input reads as it did. -/
def parseDeepSpec : ChangeSpec := { name := "parseDeep", fn := fun _ => fun
  | [d] => { results := [.lit (.bool true)], args := [d] }
  | _ => none }
def parseDeepRow : OpenClaim := { program := "ytlpeikljipknoaadoor", sum := "bc2d3f6f962250d958ccc5da3dd4e22bd1397c57d20abb414d8c57f1beb8014c", func := "seedcorn/seedcornlaw15.ParseDeep", spec := "parseDeep", unfollowed := true, recurses := true, named := ["seedcorn/token.signs", "seedcorn/token.words"], apart := false, laid := [("seedcorn/token.words", laid_seedcorn_token_words), ("seedcorn/token.signs", laid_seedcorn_token_signs)] }
def ParseDeepSaid : Prop := parseDeepRow.holds Tryd.pinned (OpenSpec.ofChange parseDeepSpec)

/-- ITS FALSE NEIGHBOUR: 'it returns false'. Refute it at one input. -/
def parseDeepWrong : ChangeSpec := { name := "parseDeep", fn := fun _ => fun
  | [d] => { results := [.lit (.bool false)], args := [d] }
  | _ => none }
def ParseDeepWrongFalsely : Prop := parseDeepRow.holds Tryd.pinned (OpenSpec.ofChange parseDeepWrong)

/-- 'seedcornlaw15.ParseFront': WHATEVER THE INPUT: true; the input reads as it did. -/
def parseFrontSpec : ChangeSpec := { name := "parseFront", fn := fun _ => fun
  | [d1, d2] => { results := [.lit (.bool true)], args := [d1, d2] }
  | _ => none }
def parseFrontRow : OpenClaim := { program := "ytlpeikljipknoaadoor", sum := "bc2d3f6f962250d958ccc5da3dd4e22bd1397c57d20abb414d8c57f1beb8014c", func := "seedcorn/seedcornlaw15.ParseFront", spec := "parseFront", unfollowed := true, recurses := true, named := ["seedcorn/token.signs", "seedcorn/token.words"], loops := true, apart := false, laid := [("seedcorn/token.words", laid_seedcorn_token_words), ("seedcorn/token.signs", laid_seedcorn_token_signs)] }
def ParseFrontSaid : Prop := parseFrontRow.holds Tryd.pinned (OpenSpec.ofChange parseFrontSpec)

/-- ITS FALSE NEIGHBOUR: 'it returns false'. Refute it at one input. -/
def parseFrontWrong : ChangeSpec := { name := "parseFront", fn := fun _ => fun
  | [d1, d2] => { results := [.lit (.bool false)], args := [d1, d2] }
  | _ => none }
def ParseFrontWrongFalsely : Prop := parseFrontRow.holds Tryd.pinned (OpenSpec.ofChange parseFrontWrong)

/- THE SECOND FORM. 'bulk': how many values and letters a reading holds, each counted each time it is reached (what is shared counts as often as it is met; a slice's spare places count too). A statement '..UptoSaid' is the law's where the arguments, and the package variables that the reading takes, are together of bulk at most 1048576: NARROWER than '..Said'. Prove '..Said' where nothing that the law and all that it calls make is longer than what came in: it says more and counts as full. Else prove '..UptoSaid'. A law counts once. -/
mutual
def uptoBulk {H : Type} : DataW H → Nat
  | .lit (.string bytes) => bytes.length + 1
  | .lit _ => 1
  | .nil => 1
  | .ptr d => uptoBulk d + 1
  | .slice elems spare => uptoBulkAll elems + uptoBulkAll spare + 1
  | .agg parts => uptoBulkAll parts + 1
  | .iface _ d => uptoBulk d + 1
  | .map entries => uptoBulkEntries entries + 1
  | .held _ => 1
def uptoBulkAll {H : Type} : List (DataW H) → Nat
  | [] => 0
  | d :: r => uptoBulk d + uptoBulkAll r
def uptoBulkEntries {H : Type} : List (Lit × DataW H) → Nat
  | [] => 0
  | x :: r => uptoBulkEntry x + uptoBulkEntries r
def uptoBulkEntry {H : Type} : Lit × DataW H → Nat
  | (.string bytes, d) => bytes.length + uptoBulk d + 1
  | (_, d) => uptoBulk d + 1
 end
def uptoSmall : (H : Type) → List (DataW H) → Bool := fun _ ds => decide (uptoBulkAll ds ≤ 1048576)
def OpenSpec.upto (s : _root_.Go.ChangeSpec) : _root_.Go.OpenSpec := { _root_.Go.OpenSpec.ofChange s with cond := some uptoSmall }

/-- 'seedcornlaw15.ParseProgs', WHERE WHAT IT READS IS OF BULK AT MOST 1048576: true; the input reads as it did. -/
def parseProgsUptoRow : OpenClaim := { program := "ytlpeikljipknoaadoor", sum := "bc2d3f6f962250d958ccc5da3dd4e22bd1397c57d20abb414d8c57f1beb8014c", func := "seedcorn/seedcornlaw15.ParseProgs", spec := "parseProgs", unfollowed := true, recurses := true, named := ["seedcorn/token.signs", "seedcorn/token.words"], apart := false, laid := [("seedcorn/token.words", laid_seedcorn_token_words), ("seedcorn/token.signs", laid_seedcorn_token_signs)], narrowed := true }
def ParseProgsUptoSaid : Prop := parseProgsUptoRow.holds Tryd.pinned (OpenSpec.upto parseProgsSpec)

/-- 'seedcornlaw15.ParseExprs', WHERE WHAT IT READS IS OF BULK AT MOST 1048576: true; the input reads as it did. -/
def parseExprsUptoRow : OpenClaim := { program := "ytlpeikljipknoaadoor", sum := "bc2d3f6f962250d958ccc5da3dd4e22bd1397c57d20abb414d8c57f1beb8014c", func := "seedcorn/seedcornlaw15.ParseExprs", spec := "parseExprs", unfollowed := true, recurses := true, named := ["seedcorn/token.signs", "seedcorn/token.words"], apart := false, laid := [("seedcorn/token.words", laid_seedcorn_token_words), ("seedcorn/token.signs", laid_seedcorn_token_signs)], narrowed := true }
def ParseExprsUptoSaid : Prop := parseExprsUptoRow.holds Tryd.pinned (OpenSpec.upto parseExprsSpec)

/-- 'seedcornlaw15.ParseBack', WHERE WHAT IT READS IS OF BULK AT MOST 1048576: true; the input reads as it did. -/
def parseBackUptoRow : OpenClaim := { program := "ytlpeikljipknoaadoor", sum := "bc2d3f6f962250d958ccc5da3dd4e22bd1397c57d20abb414d8c57f1beb8014c", func := "seedcorn/seedcornlaw15.ParseBack", spec := "parseBack", unfollowed := true, recurses := true, named := ["seedcorn/token.signs", "seedcorn/token.words"], loops := true, apart := false, laid := [("seedcorn/token.words", laid_seedcorn_token_words), ("seedcorn/token.signs", laid_seedcorn_token_signs)], narrowed := true }
def ParseBackUptoSaid : Prop := parseBackUptoRow.holds Tryd.pinned (OpenSpec.upto parseBackSpec)

/-- 'seedcornlaw15.ParseBlanks', WHERE WHAT IT READS IS OF BULK AT MOST 1048576: true; the input reads as it did. -/
def parseBlanksUptoRow : OpenClaim := { program := "ytlpeikljipknoaadoor", sum := "bc2d3f6f962250d958ccc5da3dd4e22bd1397c57d20abb414d8c57f1beb8014c", func := "seedcorn/seedcornlaw15.ParseBlanks", spec := "parseBlanks", unfollowed := true, recurses := true, named := ["seedcorn/token.signs", "seedcorn/token.words"], apart := false, laid := [("seedcorn/token.words", laid_seedcorn_token_words), ("seedcorn/token.signs", laid_seedcorn_token_signs)], narrowed := true }
def ParseBlanksUptoSaid : Prop := parseBlanksUptoRow.holds Tryd.pinned (OpenSpec.upto parseBlanksSpec)

/-- 'seedcornlaw15.ParseParens', WHERE WHAT IT READS IS OF BULK AT MOST 1048576: true; the input reads as it did. -/
def parseParensUptoRow : OpenClaim := { program := "ytlpeikljipknoaadoor", sum := "bc2d3f6f962250d958ccc5da3dd4e22bd1397c57d20abb414d8c57f1beb8014c", func := "seedcorn/seedcornlaw15.ParseParens", spec := "parseParens", unfollowed := true, recurses := true, named := ["seedcorn/token.signs", "seedcorn/token.words"], apart := false, laid := [("seedcorn/token.words", laid_seedcorn_token_words), ("seedcorn/token.signs", laid_seedcorn_token_signs)], narrowed := true }
def ParseParensUptoSaid : Prop := parseParensUptoRow.holds Tryd.pinned (OpenSpec.upto parseParensSpec)

/-- 'seedcornlaw15.ParseStrengths', WHERE WHAT IT READS IS OF BULK AT MOST 1048576: true; the input reads as it did. -/
def parseStrengthsUptoRow : OpenClaim := { program := "ytlpeikljipknoaadoor", sum := "bc2d3f6f962250d958ccc5da3dd4e22bd1397c57d20abb414d8c57f1beb8014c", func := "seedcorn/seedcornlaw15.ParseStrengths", spec := "parseStrengths", unfollowed := true, recurses := true, named := ["seedcorn/token.signs", "seedcorn/token.words"], apart := false, laid := [("seedcorn/token.words", laid_seedcorn_token_words), ("seedcorn/token.signs", laid_seedcorn_token_signs)], narrowed := true }
def ParseStrengthsUptoSaid : Prop := parseStrengthsUptoRow.holds Tryd.pinned (OpenSpec.upto parseStrengthsSpec)

/-- 'seedcornlaw15.ParseDeep', WHERE WHAT IT READS IS OF BULK AT MOST 1048576: true; the input reads as it did. -/
def parseDeepUptoRow : OpenClaim := { program := "ytlpeikljipknoaadoor", sum := "bc2d3f6f962250d958ccc5da3dd4e22bd1397c57d20abb414d8c57f1beb8014c", func := "seedcorn/seedcornlaw15.ParseDeep", spec := "parseDeep", unfollowed := true, recurses := true, named := ["seedcorn/token.signs", "seedcorn/token.words"], apart := false, laid := [("seedcorn/token.words", laid_seedcorn_token_words), ("seedcorn/token.signs", laid_seedcorn_token_signs)], narrowed := true }
def ParseDeepUptoSaid : Prop := parseDeepUptoRow.holds Tryd.pinned (OpenSpec.upto parseDeepSpec)

/-- 'seedcornlaw15.ParseFront', WHERE WHAT IT READS IS OF BULK AT MOST 1048576: true; the input reads as it did. -/
def parseFrontUptoRow : OpenClaim := { program := "ytlpeikljipknoaadoor", sum := "bc2d3f6f962250d958ccc5da3dd4e22bd1397c57d20abb414d8c57f1beb8014c", func := "seedcorn/seedcornlaw15.ParseFront", spec := "parseFront", unfollowed := true, recurses := true, named := ["seedcorn/token.signs", "seedcorn/token.words"], loops := true, apart := false, laid := [("seedcorn/token.words", laid_seedcorn_token_words), ("seedcorn/token.signs", laid_seedcorn_token_signs)], narrowed := true }
def ParseFrontUptoSaid : Prop := parseFrontUptoRow.holds Tryd.pinned (OpenSpec.upto parseFrontSpec)

end Rows
end Go.Proofs.YtlpeikljipknoaaDoor
