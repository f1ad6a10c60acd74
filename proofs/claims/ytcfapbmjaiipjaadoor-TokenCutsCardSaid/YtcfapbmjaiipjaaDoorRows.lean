/-
  NARROWER THAN 'FOR EVERY INPUT', by the rows' own cells (each row's printed sentence says how): TokenStands: laid · TokenBack: laid · TokenCuts: laid · TokenJoins: laid · TokenLongest: laid · TokenFirst: laid · TokenNames: laid · TokenLexes: laid.
  DERIVED. THE GIVEN ROWS OF THIS SEAT. 8 by the template 'for every input the law returns true; each argument reads behind the call as it read before'; 0 by the template 'total and deterministic' (their statements: YtcfapbmjaiipjaaDoorTotals.lean).
  GIVEN WITH THE SEED: the statements are not yours to turn. If you find one false, say at which input.
  Laid BY PROGRAM, IN A SANDBOX (cutbox-rows.mjs): the forced cells as the released guide's own fill.sh prints them over the translation 19f4fb2e8a5e5597… (all of the seat's roots in one cut). By AI agents, Wed Nov 11 2026. No macro, syntax, notation, axiom, sorry.
-/
import Derived.Test.YtcfapbmjaiipjaaDoorChecked
import GoSem.Claim
import GoSem.ClaimJoined
import GoSem.ClaimMapViews
import Derived.JoinedTies
import Derived.KernelRfl
namespace Go.Proofs.YtcfapbmjaiipjaaDoor
/- THE CELL 'sum', in the pinned program and in every row, IS THE sha256 OF THE DUMP (.gsa) THAT YtcfapbmjaiipjaaDoorProg.lean LOADS. Nothing in Lean hashes anything: it is a label: what it is worth is what the hold of that sum in a sandbox is worth. -/
noncomputable def Tryd.pinned : Pinned := { name := "ytcfapbmjaiipjaadoor", sum := "19f4fb2e8a5e55976626c2e31dab782a152f430d2df20cf65b58f3ea492f4578", checked := Tryd.checked }
namespace Rows
def none {H : Type} : Left H := { results := [], args := [] }

/- WHAT THE LISTED PACKAGE-LEVEL VARIABLES READ AS WHEN THE CALL BEGINS. Each datum BY PROGRAM (the guide's laid-datum.mjs) off the statement by which the dump's own 'gosem.cut.vars' lays the variable. In a bare row this is a premise. The card (YtcfapbmjaiipjaaDoorCards.lean) ties it to the program's text. -/
def laid_seedcorn_token_words {H : Type} : DataW H := .agg [.lit (.string [118, 97, 114]), .lit (.string [97, 114, 114, 97, 121]), .lit (.string [102, 117, 110, 99]), .lit (.string [119, 111, 114, 100]), .lit (.string [105, 102]), .lit (.string [101, 108, 115, 101]), .lit (.string [119, 104, 105, 108, 101]), .lit (.string [114, 101, 116, 117, 114, 110]), .lit (.string [112, 117, 116]), .lit (.string [103, 101, 116])]
def laid_seedcorn_token_signs {H : Type} : DataW H := .agg [.lit (.string [60, 60]), .lit (.string [62, 62]), .lit (.string [61, 61]), .lit (.string [38, 38]), .lit (.string [124, 124]), .lit (.string [40]), .lit (.string [41]), .lit (.string [123]), .lit (.string [125]), .lit (.string [91]), .lit (.string [93]), .lit (.string [59]), .lit (.string [44]), .lit (.string [61]), .lit (.string [43]), .lit (.string [45]), .lit (.string [42]), .lit (.string [47]), .lit (.string [37]), .lit (.string [38]), .lit (.string [124]), .lit (.string [94]), .lit (.string [60]), .lit (.string [33])]

/-- 'seedcornlaw13.TokenStands': WHATEVER THE INPUT: true; the input reads as it did. -/
def tokenStandsSpec : ChangeSpec := { name := "tokenStands", fn := fun _ => fun
  | [d] => { results := [.lit (.bool true)], args := [d] }
  | _ => none }
def tokenStandsRow : OpenClaim := { program := "ytcfapbmjaiipjaadoor", sum := "19f4fb2e8a5e55976626c2e31dab782a152f430d2df20cf65b58f3ea492f4578", func := "seedcorn/seedcornlaw13.TokenStands", spec := "tokenStands", unfollowed := true, recurses := true, named := ["seedcorn/token.signs", "seedcorn/token.words"], apart := false, laid := [("seedcorn/token.words", laid_seedcorn_token_words), ("seedcorn/token.signs", laid_seedcorn_token_signs)] }
def TokenStandsSaid : Prop := tokenStandsRow.holds Tryd.pinned (OpenSpec.ofChange tokenStandsSpec)

/-- ITS FALSE NEIGHBOUR: 'it returns false'. Refute it at one input. -/
def tokenStandsWrong : ChangeSpec := { name := "tokenStands", fn := fun _ => fun
  | [d] => { results := [.lit (.bool false)], args := [d] }
  | _ => none }
def TokenStandsWrongFalsely : Prop := tokenStandsRow.holds Tryd.pinned (OpenSpec.ofChange tokenStandsWrong)

/-- 'seedcornlaw13.TokenBack': WHATEVER THE INPUT: true; the input reads as it did. -/
def tokenBackSpec : ChangeSpec := { name := "tokenBack", fn := fun _ => fun
  | [d1, d2] => { results := [.lit (.bool true)], args := [d1, d2] }
  | _ => none }
def tokenBackRow : OpenClaim := { program := "ytcfapbmjaiipjaadoor", sum := "19f4fb2e8a5e55976626c2e31dab782a152f430d2df20cf65b58f3ea492f4578", func := "seedcorn/seedcornlaw13.TokenBack", spec := "tokenBack", unfollowed := true, recurses := true, named := ["seedcorn/token.signs", "seedcorn/token.words"], apart := false, laid := [("seedcorn/token.words", laid_seedcorn_token_words), ("seedcorn/token.signs", laid_seedcorn_token_signs)] }
def TokenBackSaid : Prop := tokenBackRow.holds Tryd.pinned (OpenSpec.ofChange tokenBackSpec)

/-- ITS FALSE NEIGHBOUR: 'it returns false'. Refute it at one input. -/
def tokenBackWrong : ChangeSpec := { name := "tokenBack", fn := fun _ => fun
  | [d1, d2] => { results := [.lit (.bool false)], args := [d1, d2] }
  | _ => none }
def TokenBackWrongFalsely : Prop := tokenBackRow.holds Tryd.pinned (OpenSpec.ofChange tokenBackWrong)

/-- 'seedcornlaw13.TokenCuts': WHATEVER THE INPUT: true; the input reads as it did. -/
def tokenCutsSpec : ChangeSpec := { name := "tokenCuts", fn := fun _ => fun
  | [d1, d2] => { results := [.lit (.bool true)], args := [d1, d2] }
  | _ => none }
def tokenCutsRow : OpenClaim := { program := "ytcfapbmjaiipjaadoor", sum := "19f4fb2e8a5e55976626c2e31dab782a152f430d2df20cf65b58f3ea492f4578", func := "seedcorn/seedcornlaw13.TokenCuts", spec := "tokenCuts", unfollowed := true, recurses := true, named := ["seedcorn/token.signs", "seedcorn/token.words"], apart := false, laid := [("seedcorn/token.words", laid_seedcorn_token_words), ("seedcorn/token.signs", laid_seedcorn_token_signs)] }
def TokenCutsSaid : Prop := tokenCutsRow.holds Tryd.pinned (OpenSpec.ofChange tokenCutsSpec)

/-- ITS FALSE NEIGHBOUR: 'it returns false'. Refute it at one input. -/
def tokenCutsWrong : ChangeSpec := { name := "tokenCuts", fn := fun _ => fun
  | [d1, d2] => { results := [.lit (.bool false)], args := [d1, d2] }
  | _ => none }
def TokenCutsWrongFalsely : Prop := tokenCutsRow.holds Tryd.pinned (OpenSpec.ofChange tokenCutsWrong)

/-- 'seedcornlaw13.TokenJoins': WHATEVER THE INPUT: true; the input reads as it did. -/
def tokenJoinsSpec : ChangeSpec := { name := "tokenJoins", fn := fun _ => fun
  | [d1, d2] => { results := [.lit (.bool true)], args := [d1, d2] }
  | _ => none }
def tokenJoinsRow : OpenClaim := { program := "ytcfapbmjaiipjaadoor", sum := "19f4fb2e8a5e55976626c2e31dab782a152f430d2df20cf65b58f3ea492f4578", func := "seedcorn/seedcornlaw13.TokenJoins", spec := "tokenJoins", unfollowed := true, recurses := true, named := ["seedcorn/token.signs", "seedcorn/token.words"], apart := false, laid := [("seedcorn/token.words", laid_seedcorn_token_words), ("seedcorn/token.signs", laid_seedcorn_token_signs)] }
def TokenJoinsSaid : Prop := tokenJoinsRow.holds Tryd.pinned (OpenSpec.ofChange tokenJoinsSpec)

/-- ITS FALSE NEIGHBOUR: 'it returns false'. Refute it at one input. -/
def tokenJoinsWrong : ChangeSpec := { name := "tokenJoins", fn := fun _ => fun
  | [d1, d2] => { results := [.lit (.bool false)], args := [d1, d2] }
  | _ => none }
def TokenJoinsWrongFalsely : Prop := tokenJoinsRow.holds Tryd.pinned (OpenSpec.ofChange tokenJoinsWrong)

/-- 'seedcornlaw13.TokenLongest': WHATEVER THE INPUT: true; the input reads as it did. -/
def tokenLongestSpec : ChangeSpec := { name := "tokenLongest", fn := fun _ => fun
  | [d] => { results := [.lit (.bool true)], args := [d] }
  | _ => none }
def tokenLongestRow : OpenClaim := { program := "ytcfapbmjaiipjaadoor", sum := "19f4fb2e8a5e55976626c2e31dab782a152f430d2df20cf65b58f3ea492f4578", func := "seedcorn/seedcornlaw13.TokenLongest", spec := "tokenLongest", unfollowed := true, recurses := true, named := ["seedcorn/token.signs", "seedcorn/token.words"], apart := false, laid := [("seedcorn/token.words", laid_seedcorn_token_words), ("seedcorn/token.signs", laid_seedcorn_token_signs)] }
def TokenLongestSaid : Prop := tokenLongestRow.holds Tryd.pinned (OpenSpec.ofChange tokenLongestSpec)

/-- ITS FALSE NEIGHBOUR: 'it returns false'. Refute it at one input. -/
def tokenLongestWrong : ChangeSpec := { name := "tokenLongest", fn := fun _ => fun
  | [d] => { results := [.lit (.bool false)], args := [d] }
  | _ => none }
def TokenLongestWrongFalsely : Prop := tokenLongestRow.holds Tryd.pinned (OpenSpec.ofChange tokenLongestWrong)

/-- 'seedcornlaw13.TokenFirst': WHATEVER THE INPUT: true; the input reads as it did. -/
def tokenFirstSpec : ChangeSpec := { name := "tokenFirst", fn := fun _ => fun
  | [d1, d2] => { results := [.lit (.bool true)], args := [d1, d2] }
  | _ => none }
def tokenFirstRow : OpenClaim := { program := "ytcfapbmjaiipjaadoor", sum := "19f4fb2e8a5e55976626c2e31dab782a152f430d2df20cf65b58f3ea492f4578", func := "seedcorn/seedcornlaw13.TokenFirst", spec := "tokenFirst", unfollowed := true, recurses := true, named := ["seedcorn/token.signs", "seedcorn/token.words"], apart := false, laid := [("seedcorn/token.words", laid_seedcorn_token_words), ("seedcorn/token.signs", laid_seedcorn_token_signs)] }
def TokenFirstSaid : Prop := tokenFirstRow.holds Tryd.pinned (OpenSpec.ofChange tokenFirstSpec)

/-- ITS FALSE NEIGHBOUR: 'it returns false'. Refute it at one input. -/
def tokenFirstWrong : ChangeSpec := { name := "tokenFirst", fn := fun _ => fun
  | [d1, d2] => { results := [.lit (.bool false)], args := [d1, d2] }
  | _ => none }
def TokenFirstWrongFalsely : Prop := tokenFirstRow.holds Tryd.pinned (OpenSpec.ofChange tokenFirstWrong)

/-- 'seedcornlaw13.TokenNames': WHATEVER THE INPUT: true; the input reads as it did. -/
def tokenNamesSpec : ChangeSpec := { name := "tokenNames", fn := fun _ => fun
  | [d] => { results := [.lit (.bool true)], args := [d] }
  | _ => none }
def tokenNamesRow : OpenClaim := { program := "ytcfapbmjaiipjaadoor", sum := "19f4fb2e8a5e55976626c2e31dab782a152f430d2df20cf65b58f3ea492f4578", func := "seedcorn/seedcornlaw13.TokenNames", spec := "tokenNames", unfollowed := true, recurses := true, named := ["seedcorn/token.signs", "seedcorn/token.words"], apart := false, laid := [("seedcorn/token.words", laid_seedcorn_token_words), ("seedcorn/token.signs", laid_seedcorn_token_signs)] }
def TokenNamesSaid : Prop := tokenNamesRow.holds Tryd.pinned (OpenSpec.ofChange tokenNamesSpec)

/-- ITS FALSE NEIGHBOUR: 'it returns false'. Refute it at one input. -/
def tokenNamesWrong : ChangeSpec := { name := "tokenNames", fn := fun _ => fun
  | [d] => { results := [.lit (.bool false)], args := [d] }
  | _ => none }
def TokenNamesWrongFalsely : Prop := tokenNamesRow.holds Tryd.pinned (OpenSpec.ofChange tokenNamesWrong)

/-- 'seedcornlaw13.TokenLexes': WHATEVER THE INPUT: true; the input reads as it did. -/
def tokenLexesSpec : ChangeSpec := { name := "tokenLexes", fn := fun _ => fun
  | [d] => { results := [.lit (.bool true)], args := [d] }
  | _ => none }
def tokenLexesRow : OpenClaim := { program := "ytcfapbmjaiipjaadoor", sum := "19f4fb2e8a5e55976626c2e31dab782a152f430d2df20cf65b58f3ea492f4578", func := "seedcorn/seedcornlaw13.TokenLexes", spec := "tokenLexes", unfollowed := true, recurses := true, named := ["seedcorn/token.signs", "seedcorn/token.words"], apart := false, laid := [("seedcorn/token.words", laid_seedcorn_token_words), ("seedcorn/token.signs", laid_seedcorn_token_signs)] }
def TokenLexesSaid : Prop := tokenLexesRow.holds Tryd.pinned (OpenSpec.ofChange tokenLexesSpec)

/-- ITS FALSE NEIGHBOUR: 'it returns false'. Refute it at one input. -/
def tokenLexesWrong : ChangeSpec := { name := "tokenLexes", fn := fun _ => fun
  | [d] => { results := [.lit (.bool false)], args := [d] }
  | _ => none }
def TokenLexesWrongFalsely : Prop := tokenLexesRow.holds Tryd.pinned (OpenSpec.ofChange tokenLexesWrong)

/- THE SECOND FORM. 'bulk': how many values and letters a reading holds, each counted each time it is reached (what is shared counts as often as it is met; a slice's spare places count too). A statement '..UptoSaid' is the law's where the arguments, and the package variables that the reading takes, are together of bulk at most 1048576: NARROWER than '..Said'. Prove '..Said' where nothing that the law and all that it calls make is longer than what came in: it says more and counts as full. Else prove '..UptoSaid'. A law counts once. -/
mutual
def uptoBulk {H : Type} : DataW H → Nat
  | .lit (.string bytes) => bytes.length + 1
  | .lit _ => 1
  | .nil => 1
  | .ptr d => uptoBulk d + 1
  | .slice elems spare => uptoBulkAll elems + uptoBulkAll spare + 1
  | .agg parts => uptoBulkAll parts + 1
  | .iface _ d => uptoBulk d + 1
  | .map entries => uptoBulkEntries entries + 1
  | .held _ => 1
def uptoBulkAll {H : Type} : List (DataW H) → Nat
  | [] => 0
  | d :: r => uptoBulk d + uptoBulkAll r
def uptoBulkEntries {H : Type} : List (Lit × DataW H) → Nat
  | [] => 0
  | x :: r => uptoBulkEntry x + uptoBulkEntries r
def uptoBulkEntry {H : Type} : Lit × DataW H → Nat
  | (.string bytes, d) => bytes.length + uptoBulk d + 1
  | (_, d) => uptoBulk d + 1
 end
def uptoSmall : (H : Type) → List (DataW H) → Bool := fun _ ds => decide (uptoBulkAll ds ≤ 1048576)
def OpenSpec.upto (s : _root_.Go.ChangeSpec) : _root_.Go.OpenSpec := { _root_.Go.OpenSpec.ofChange s with cond := some uptoSmall }

/-- 'seedcornlaw13.TokenStands', WHERE WHAT IT READS IS OF BULK AT MOST 1048576: true; the input reads as it did. -/
def tokenStandsUptoRow : OpenClaim := { program := "ytcfapbmjaiipjaadoor", sum := "19f4fb2e8a5e55976626c2e31dab782a152f430d2df20cf65b58f3ea492f4578", func := "seedcorn/seedcornlaw13.TokenStands", spec := "tokenStands", unfollowed := true, recurses := true, named := ["seedcorn/token.signs", "seedcorn/token.words"], apart := false, laid := [("seedcorn/token.words", laid_seedcorn_token_words), ("seedcorn/token.signs", laid_seedcorn_token_signs)], narrowed := true }
def TokenStandsUptoSaid : Prop := tokenStandsUptoRow.holds Tryd.pinned (OpenSpec.upto tokenStandsSpec)

/-- 'seedcornlaw13.TokenBack', WHERE WHAT IT READS IS OF BULK AT MOST 1048576: true; the input reads as it did. -/
def tokenBackUptoRow : OpenClaim := { program := "ytcfapbmjaiipjaadoor", sum := "19f4fb2e8a5e55976626c2e31dab782a152f430d2df20cf65b58f3ea492f4578", func := "seedcorn/seedcornlaw13.TokenBack", spec := "tokenBack", unfollowed := true, recurses := true, named := ["seedcorn/token.signs", "seedcorn/token.words"], apart := false, laid := [("seedcorn/token.words", laid_seedcorn_token_words), ("seedcorn/token.signs", laid_seedcorn_token_signs)], narrowed := true }
def TokenBackUptoSaid : Prop := tokenBackUptoRow.holds Tryd.pinned (OpenSpec.upto tokenBackSpec)

/-- 'seedcornlaw13.TokenCuts', WHERE WHAT IT READS IS OF BULK AT MOST 1048576: true; the input reads as it did. -/
def tokenCutsUptoRow : OpenClaim := { program := "ytcfapbmjaiipjaadoor", sum := "19f4fb2e8a5e55976626c2e31dab782a152f430d2df20cf65b58f3ea492f4578", func := "seedcorn/seedcornlaw13.TokenCuts", spec := "tokenCuts", unfollowed := true, recurses := true, named := ["seedcorn/token.signs", "seedcorn/token.words"], apart := false, laid := [("seedcorn/token.words", laid_seedcorn_token_words), ("seedcorn/token.signs", laid_seedcorn_token_signs)], narrowed := true }
def TokenCutsUptoSaid : Prop := tokenCutsUptoRow.holds Tryd.pinned (OpenSpec.upto tokenCutsSpec)

/-- 'seedcornlaw13.TokenJoins', WHERE WHAT IT READS IS OF BULK AT MOST 1048576: true; the input reads as it did. -/
def tokenJoinsUptoRow : OpenClaim := { program := "ytcfapbmjaiipjaadoor", sum := "19f4fb2e8a5e55976626c2e31dab782a152f430d2df20cf65b58f3ea492f4578", func := "seedcorn/seedcornlaw13.TokenJoins", spec := "tokenJoins", unfollowed := true, recurses := true, named := ["seedcorn/token.signs", "seedcorn/token.words"], apart := false, laid := [("seedcorn/token.words", laid_seedcorn_token_words), ("seedcorn/token.signs", laid_seedcorn_token_signs)], narrowed := true }
def TokenJoinsUptoSaid : Prop := tokenJoinsUptoRow.holds Tryd.pinned (OpenSpec.upto tokenJoinsSpec)

/-- 'seedcornlaw13.TokenLongest', WHERE WHAT IT READS IS OF BULK AT MOST 1048576: true; the input reads as it did. -/
def tokenLongestUptoRow : OpenClaim := { program := "ytcfapbmjaiipjaadoor", sum := "19f4fb2e8a5e55976626c2e31dab782a152f430d2df20cf65b58f3ea492f4578", func := "seedcorn/seedcornlaw13.TokenLongest", spec := "tokenLongest", unfollowed := true, recurses := true, named := ["seedcorn/token.signs", "seedcorn/token.words"], apart := false, laid := [("seedcorn/token.words", laid_seedcorn_token_words), ("seedcorn/token.signs", laid_seedcorn_token_signs)], narrowed := true }
def TokenLongestUptoSaid : Prop := tokenLongestUptoRow.holds Tryd.pinned (OpenSpec.upto tokenLongestSpec)

/-- 'seedcornlaw13.TokenFirst', WHERE WHAT IT READS IS OF BULK AT MOST 1048576: true; the input reads as it did. -/
def tokenFirstUptoRow : OpenClaim := { program := "ytcfapbmjaiipjaadoor", sum := "19f4fb2e8a5e55976626c2e31dab782a152f430d2df20cf65b58f3ea492f4578", func := "seedcorn/seedcornlaw13.TokenFirst", spec := "tokenFirst", unfollowed := true, recurses := true, named := ["seedcorn/token.signs", "seedcorn/token.words"], apart := false, laid := [("seedcorn/token.words", laid_seedcorn_token_words), ("seedcorn/token.signs", laid_seedcorn_token_signs)], narrowed := true }
def TokenFirstUptoSaid : Prop := tokenFirstUptoRow.holds Tryd.pinned (OpenSpec.upto tokenFirstSpec)

/-- 'seedcornlaw13.TokenNames', WHERE WHAT IT READS IS OF BULK AT MOST 1048576: true; the input reads as it did. -/
def tokenNamesUptoRow : OpenClaim := { program := "ytcfapbmjaiipjaadoor", sum := "19f4fb2e8a5e55976626c2e31dab782a152f430d2df20cf65b58f3ea492f4578", func := "seedcorn/seedcornlaw13.TokenNames", spec := "tokenNames", unfollowed := true, recurses := true, named := ["seedcorn/token.signs", "seedcorn/token.words"], apart := false, laid := [("seedcorn/token.words", laid_seedcorn_token_words), ("seedcorn/token.signs", laid_seedcorn_token_signs)], narrowed := true }
def TokenNamesUptoSaid : Prop := tokenNamesUptoRow.holds Tryd.pinned (OpenSpec.upto tokenNamesSpec)

/-- 'seedcornlaw13.TokenLexes', WHERE WHAT IT READS IS OF BULK AT MOST 1048576: true; the input reads as it did. -/
def tokenLexesUptoRow : OpenClaim := { program := "ytcfapbmjaiipjaadoor", sum := "19f4fb2e8a5e55976626c2e31dab782a152f430d2df20cf65b58f3ea492f4578", func := "seedcorn/seedcornlaw13.TokenLexes", spec := "tokenLexes", unfollowed := true, recurses := true, named := ["seedcorn/token.signs", "seedcorn/token.words"], apart := false, laid := [("seedcorn/token.words", laid_seedcorn_token_words), ("seedcorn/token.signs", laid_seedcorn_token_signs)], narrowed := true }
def TokenLexesUptoSaid : Prop := tokenLexesUptoRow.holds Tryd.pinned (OpenSpec.upto tokenLexesSpec)

end Rows
end Go.Proofs.YtcfapbmjaiipjaaDoor
