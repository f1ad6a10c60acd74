/-
  NARROWER THAN 'FOR EVERY INPUT', by the rows' own cells (each row's printed sentence says how): SelfTexts: loops, laid · SelfFits: loops, laid · SelfCompiles: loops, laid · SelfAgain: laid · SelfParents: loops, laid · SelfApart: loops, laid · SelfSays: laid.
  DERIVED. THE GIVEN ROWS OF THIS SEAT. 7 by the template 'for every input the law returns true; each argument reads behind the call as it read before'; 0 by the template 'total and deterministic' (their statements: YtaecpjgmcffliaaGreatDoorTotals.lean).
  GIVEN WITH THE SEED: the statements are not yours to turn. If you find one false, say at which input.
  Laid BY PROGRAM, IN A SANDBOX (cutbox-rows.mjs): the forced cells as the released guide's own fill.sh prints them over the translation 45da6d737efb3742… (all of the seat's roots in one cut). By AI agents, Wed Nov 11 2026. No macro, syntax, notation, axiom, sorry.
-/
import Derived.Test.YtaecpjgmcffliaaGreatDoorChecked
import GoSem.Claim
import GoSem.ClaimJoined
import GoSem.ClaimMapViews
import Derived.JoinedTies
import Derived.KernelRfl
namespace Go.Proofs.YtaecpjgmcffliaaGreatDoor
/- THE CELL 'sum', in the pinned program and in every row, IS THE sha256 OF THE DUMP (.gsa) THAT YtaecpjgmcffliaaGreatDoorProg.lean LOADS. Nothing in Lean hashes anything: it is a label: what it is worth is what the hold of that sum in a sandbox is worth. -/
noncomputable def Tryz.pinned : Pinned := { name := "ytaecpjgmcffliaagreatdoor", sum := "45da6d737efb37420c3b328cbec12398f19b1727dc94e3064767f1e1aeeff7d8", checked := Tryz.checked }
namespace Rows
def none {H : Type} : Left H := { results := [], args := [] }

/- WHAT THE LISTED PACKAGE-LEVEL VARIABLES READ AS WHEN THE CALL BEGINS. Each datum BY PROGRAM (the guide's laid-datum.mjs) off the statement by which the dump's own 'gosem.cut.vars' lays the variable. In a bare row this is a premise. The card (YtaecpjgmcffliaaGreatDoorCards.lean) ties it to the program's text. -/
def laid_math_bits_deBruijn32tab {H : Type} : DataW H := .agg [.lit (.int .u8 0), .lit (.int .u8 1), .lit (.int .u8 28), .lit (.int .u8 2), .lit (.int .u8 29), .lit (.int .u8 14), .lit (.int .u8 24), .lit (.int .u8 3), .lit (.int .u8 30), .lit (.int .u8 22), .lit (.int .u8 20), .lit (.int .u8 15), .lit (.int .u8 25), .lit (.int .u8 17), .lit (.int .u8 4), .lit (.int .u8 8), .lit (.int .u8 31), .lit (.int .u8 27), .lit (.int .u8 13), .lit (.int .u8 23), .lit (.int .u8 21), .lit (.int .u8 19), .lit (.int .u8 16), .lit (.int .u8 7), .lit (.int .u8 26), .lit (.int .u8 12), .lit (.int .u8 18), .lit (.int .u8 6), .lit (.int .u8 11), .lit (.int .u8 5), .lit (.int .u8 10), .lit (.int .u8 9)]
def laid_math_bits_deBruijn64tab {H : Type} : DataW H := .agg [.lit (.int .u8 0), .lit (.int .u8 1), .lit (.int .u8 56), .lit (.int .u8 2), .lit (.int .u8 57), .lit (.int .u8 49), .lit (.int .u8 28), .lit (.int .u8 3), .lit (.int .u8 61), .lit (.int .u8 58), .lit (.int .u8 42), .lit (.int .u8 50), .lit (.int .u8 38), .lit (.int .u8 29), .lit (.int .u8 17), .lit (.int .u8 4), .lit (.int .u8 62), .lit (.int .u8 47), .lit (.int .u8 59), .lit (.int .u8 36), .lit (.int .u8 45), .lit (.int .u8 43), .lit (.int .u8 51), .lit (.int .u8 22), .lit (.int .u8 53), .lit (.int .u8 39), .lit (.int .u8 33), .lit (.int .u8 30), .lit (.int .u8 24), .lit (.int .u8 18), .lit (.int .u8 12), .lit (.int .u8 5), .lit (.int .u8 63), .lit (.int .u8 55), .lit (.int .u8 48), .lit (.int .u8 27), .lit (.int .u8 60), .lit (.int .u8 41), .lit (.int .u8 37), .lit (.int .u8 16), .lit (.int .u8 46), .lit (.int .u8 35), .lit (.int .u8 44), .lit (.int .u8 21), .lit (.int .u8 52), .lit (.int .u8 32), .lit (.int .u8 23), .lit (.int .u8 11), .lit (.int .u8 54), .lit (.int .u8 26), .lit (.int .u8 40), .lit (.int .u8 15), .lit (.int .u8 34), .lit (.int .u8 20), .lit (.int .u8 31), .lit (.int .u8 10), .lit (.int .u8 25), .lit (.int .u8 14), .lit (.int .u8 19), .lit (.int .u8 9), .lit (.int .u8 13), .lit (.int .u8 8), .lit (.int .u8 7), .lit (.int .u8 6)]
def laid_internal_strconv_uint64pow10 {H : Type} : DataW H := .agg [.lit (.int .u64 1), .lit (.int .u64 10), .lit (.int .u64 100), .lit (.int .u64 1000), .lit (.int .u64 10000), .lit (.int .u64 100000), .lit (.int .u64 1000000), .lit (.int .u64 10000000), .lit (.int .u64 100000000), .lit (.int .u64 1000000000), .lit (.int .u64 10000000000), .lit (.int .u64 100000000000), .lit (.int .u64 1000000000000), .lit (.int .u64 10000000000000), .lit (.int .u64 100000000000000), .lit (.int .u64 1000000000000000), .lit (.int .u64 10000000000000000), .lit (.int .u64 100000000000000000), .lit (.int .u64 1000000000000000000), .lit (.int .u64 10000000000000000000)]
def laid_seedcorn_token_words {H : Type} : DataW H := .agg [.lit (.string [118, 97, 114]), .lit (.string [97, 114, 114, 97, 121]), .lit (.string [102, 117, 110, 99]), .lit (.string [119, 111, 114, 100]), .lit (.string [105, 102]), .lit (.string [101, 108, 115, 101]), .lit (.string [119, 104, 105, 108, 101]), .lit (.string [114, 101, 116, 117, 114, 110]), .lit (.string [112, 117, 116]), .lit (.string [103, 101, 116])]

/-- 'seedcornlaw52.SelfTexts': WHATEVER THE INPUT: true; the input reads as it did. -/
def selfTextsSpec : ChangeSpec := { name := "selfTexts", fn := fun _ => fun
  | [d] => { results := [.lit (.bool true)], args := [d] }
  | _ => none }
def selfTextsRow : OpenClaim := { program := "ytaecpjgmcffliaagreatdoor", sum := "45da6d737efb37420c3b328cbec12398f19b1727dc94e3064767f1e1aeeff7d8", func := "seedcorn/seedcornlaw52.SelfTexts", spec := "selfTexts", inPlace := ["internal/abi.NoEscape"], unfollowed := true, recurses := true, named := ["seedcorn/token.words", "internal/strconv.uint64pow10", "math/bits.deBruijn32tab", "math/bits.deBruijn64tab"], loops := true, apart := false, laid := [("math/bits.deBruijn32tab", laid_math_bits_deBruijn32tab), ("math/bits.deBruijn64tab", laid_math_bits_deBruijn64tab), ("internal/strconv.uint64pow10", laid_internal_strconv_uint64pow10), ("seedcorn/token.words", laid_seedcorn_token_words)] }
def SelfTextsSaid : Prop := selfTextsRow.holds Tryz.pinned (OpenSpec.ofChange selfTextsSpec)

/-- ITS FALSE NEIGHBOUR: 'it returns false'. Refute it at one input. -/
def selfTextsWrong : ChangeSpec := { name := "selfTexts", fn := fun _ => fun
  | [d] => { results := [.lit (.bool false)], args := [d] }
  | _ => none }
def SelfTextsWrongFalsely : Prop := selfTextsRow.holds Tryz.pinned (OpenSpec.ofChange selfTextsWrong)

/-- 'seedcornlaw52.SelfFits': WHATEVER THE INPUT: true; the input reads as it did. -/
def selfFitsSpec : ChangeSpec := { name := "selfFits", fn := fun _ => fun
  | [d] => { results := [.lit (.bool true)], args := [d] }
  | _ => none }
def selfFitsRow : OpenClaim := { program := "ytaecpjgmcffliaagreatdoor", sum := "45da6d737efb37420c3b328cbec12398f19b1727dc94e3064767f1e1aeeff7d8", func := "seedcorn/seedcornlaw52.SelfFits", spec := "selfFits", inPlace := ["internal/abi.NoEscape"], unfollowed := true, recurses := true, named := ["seedcorn/token.words", "internal/strconv.uint64pow10", "math/bits.deBruijn32tab", "math/bits.deBruijn64tab"], loops := true, apart := false, laid := [("math/bits.deBruijn32tab", laid_math_bits_deBruijn32tab), ("math/bits.deBruijn64tab", laid_math_bits_deBruijn64tab), ("internal/strconv.uint64pow10", laid_internal_strconv_uint64pow10), ("seedcorn/token.words", laid_seedcorn_token_words)] }
def SelfFitsSaid : Prop := selfFitsRow.holds Tryz.pinned (OpenSpec.ofChange selfFitsSpec)

/-- ITS FALSE NEIGHBOUR: 'it returns false'. Refute it at one input. -/
def selfFitsWrong : ChangeSpec := { name := "selfFits", fn := fun _ => fun
  | [d] => { results := [.lit (.bool false)], args := [d] }
  | _ => none }
def SelfFitsWrongFalsely : Prop := selfFitsRow.holds Tryz.pinned (OpenSpec.ofChange selfFitsWrong)

/-- 'seedcornlaw52.SelfCompiles': WHATEVER THE INPUT: true; the input reads as it did. -/
def selfCompilesSpec : ChangeSpec := { name := "selfCompiles", fn := fun _ => fun
  | [d1, d2] => { results := [.lit (.bool true)], args := [d1, d2] }
  | _ => none }
def selfCompilesRow : OpenClaim := { program := "ytaecpjgmcffliaagreatdoor", sum := "45da6d737efb37420c3b328cbec12398f19b1727dc94e3064767f1e1aeeff7d8", func := "seedcorn/seedcornlaw52.SelfCompiles", spec := "selfCompiles", inPlace := ["internal/abi.NoEscape"], unfollowed := true, recurses := true, named := ["seedcorn/token.words", "internal/strconv.uint64pow10", "math/bits.deBruijn32tab", "math/bits.deBruijn64tab"], loops := true, apart := false, laid := [("math/bits.deBruijn32tab", laid_math_bits_deBruijn32tab), ("math/bits.deBruijn64tab", laid_math_bits_deBruijn64tab), ("internal/strconv.uint64pow10", laid_internal_strconv_uint64pow10), ("seedcorn/token.words", laid_seedcorn_token_words)] }
def SelfCompilesSaid : Prop := selfCompilesRow.holds Tryz.pinned (OpenSpec.ofChange selfCompilesSpec)

/-- ITS FALSE NEIGHBOUR: 'it returns false'. Refute it at one input. -/
def selfCompilesWrong : ChangeSpec := { name := "selfCompiles", fn := fun _ => fun
  | [d1, d2] => { results := [.lit (.bool false)], args := [d1, d2] }
  | _ => none }
def SelfCompilesWrongFalsely : Prop := selfCompilesRow.holds Tryz.pinned (OpenSpec.ofChange selfCompilesWrong)

/-- 'seedcornlaw52.SelfAgain': WHATEVER THE INPUT: true; the input reads as it did. -/
def selfAgainSpec : ChangeSpec := { name := "selfAgain", fn := fun _ => fun
  | [] => { results := [.lit (.bool true)], args := [] }
  | _ => none }
def selfAgainRow : OpenClaim := { program := "ytaecpjgmcffliaagreatdoor", sum := "45da6d737efb37420c3b328cbec12398f19b1727dc94e3064767f1e1aeeff7d8", func := "seedcorn/seedcornlaw52.SelfAgain", spec := "selfAgain", inPlace := ["internal/abi.NoEscape"], unfollowed := true, recurses := true, named := ["seedcorn/token.words", "internal/strconv.uint64pow10", "math/bits.deBruijn32tab", "math/bits.deBruijn64tab"], apart := false, laid := [("math/bits.deBruijn32tab", laid_math_bits_deBruijn32tab), ("math/bits.deBruijn64tab", laid_math_bits_deBruijn64tab), ("internal/strconv.uint64pow10", laid_internal_strconv_uint64pow10), ("seedcorn/token.words", laid_seedcorn_token_words)] }
def SelfAgainSaid : Prop := selfAgainRow.holds Tryz.pinned (OpenSpec.ofChange selfAgainSpec)

/-- ITS FALSE NEIGHBOUR: 'it returns false'. Refute it at one input. -/
def selfAgainWrong : ChangeSpec := { name := "selfAgain", fn := fun _ => fun
  | [] => { results := [.lit (.bool false)], args := [] }
  | _ => none }
def SelfAgainWrongFalsely : Prop := selfAgainRow.holds Tryz.pinned (OpenSpec.ofChange selfAgainWrong)

/-- 'seedcornlaw52.SelfParents': WHATEVER THE INPUT: true; the input reads as it did. -/
def selfParentsSpec : ChangeSpec := { name := "selfParents", fn := fun _ => fun
  | [d1, d2] => { results := [.lit (.bool true)], args := [d1, d2] }
  | _ => none }
def selfParentsRow : OpenClaim := { program := "ytaecpjgmcffliaagreatdoor", sum := "45da6d737efb37420c3b328cbec12398f19b1727dc94e3064767f1e1aeeff7d8", func := "seedcorn/seedcornlaw52.SelfParents", spec := "selfParents", inPlace := ["internal/abi.NoEscape"], unfollowed := true, recurses := true, named := ["seedcorn/token.words", "internal/strconv.uint64pow10", "math/bits.deBruijn32tab", "math/bits.deBruijn64tab"], loops := true, apart := false, laid := [("math/bits.deBruijn32tab", laid_math_bits_deBruijn32tab), ("math/bits.deBruijn64tab", laid_math_bits_deBruijn64tab), ("internal/strconv.uint64pow10", laid_internal_strconv_uint64pow10), ("seedcorn/token.words", laid_seedcorn_token_words)] }
def SelfParentsSaid : Prop := selfParentsRow.holds Tryz.pinned (OpenSpec.ofChange selfParentsSpec)

/-- ITS FALSE NEIGHBOUR: 'it returns false'. Refute it at one input. -/
def selfParentsWrong : ChangeSpec := { name := "selfParents", fn := fun _ => fun
  | [d1, d2] => { results := [.lit (.bool false)], args := [d1, d2] }
  | _ => none }
def SelfParentsWrongFalsely : Prop := selfParentsRow.holds Tryz.pinned (OpenSpec.ofChange selfParentsWrong)

/-- 'seedcornlaw52.SelfApart': WHATEVER THE INPUT: true; the input reads as it did. -/
def selfApartSpec : ChangeSpec := { name := "selfApart", fn := fun _ => fun
  | [d1, d2] => { results := [.lit (.bool true)], args := [d1, d2] }
  | _ => none }
def selfApartRow : OpenClaim := { program := "ytaecpjgmcffliaagreatdoor", sum := "45da6d737efb37420c3b328cbec12398f19b1727dc94e3064767f1e1aeeff7d8", func := "seedcorn/seedcornlaw52.SelfApart", spec := "selfApart", inPlace := ["internal/abi.NoEscape"], unfollowed := true, recurses := true, named := ["seedcorn/token.words", "internal/strconv.uint64pow10", "math/bits.deBruijn32tab", "math/bits.deBruijn64tab"], loops := true, apart := false, laid := [("math/bits.deBruijn32tab", laid_math_bits_deBruijn32tab), ("math/bits.deBruijn64tab", laid_math_bits_deBruijn64tab), ("internal/strconv.uint64pow10", laid_internal_strconv_uint64pow10), ("seedcorn/token.words", laid_seedcorn_token_words)] }
def SelfApartSaid : Prop := selfApartRow.holds Tryz.pinned (OpenSpec.ofChange selfApartSpec)

/-- ITS FALSE NEIGHBOUR: 'it returns false'. Refute it at one input. -/
def selfApartWrong : ChangeSpec := { name := "selfApart", fn := fun _ => fun
  | [d1, d2] => { results := [.lit (.bool false)], args := [d1, d2] }
  | _ => none }
def SelfApartWrongFalsely : Prop := selfApartRow.holds Tryz.pinned (OpenSpec.ofChange selfApartWrong)

/-- 'seedcornlaw52.SelfSays': WHATEVER THE INPUT: true; the input reads as it did. -/
def selfSaysSpec : ChangeSpec := { name := "selfSays", fn := fun _ => fun
  | [d] => { results := [.lit (.bool true)], args := [d] }
  | _ => none }
def selfSaysRow : OpenClaim := { program := "ytaecpjgmcffliaagreatdoor", sum := "45da6d737efb37420c3b328cbec12398f19b1727dc94e3064767f1e1aeeff7d8", func := "seedcorn/seedcornlaw52.SelfSays", spec := "selfSays", inPlace := ["internal/abi.NoEscape"], unfollowed := true, recurses := true, named := ["seedcorn/token.words", "internal/strconv.uint64pow10", "math/bits.deBruijn32tab", "math/bits.deBruijn64tab"], apart := false, laid := [("math/bits.deBruijn32tab", laid_math_bits_deBruijn32tab), ("math/bits.deBruijn64tab", laid_math_bits_deBruijn64tab), ("internal/strconv.uint64pow10", laid_internal_strconv_uint64pow10), ("seedcorn/token.words", laid_seedcorn_token_words)] }
def SelfSaysSaid : Prop := selfSaysRow.holds Tryz.pinned (OpenSpec.ofChange selfSaysSpec)

/-- ITS FALSE NEIGHBOUR: 'it returns false'. Refute it at one input. -/
def selfSaysWrong : ChangeSpec := { name := "selfSays", fn := fun _ => fun
  | [d] => { results := [.lit (.bool false)], args := [d] }
  | _ => none }
def SelfSaysWrongFalsely : Prop := selfSaysRow.holds Tryz.pinned (OpenSpec.ofChange selfSaysWrong)

/- THE SECOND FORM. 'bulk': how many values and letters a reading holds, each counted each time it is reached (what is shared counts as often as it is met; a slice's spare places count too). A statement '..UptoSaid' is the law's where the arguments, and the package variables that the reading takes, are together of bulk at most 1048576: NARROWER than '..Said'. Prove '..Said' where nothing that the law and all that it calls make is longer than what came in: it says more and counts as full. Else prove '..UptoSaid'. A law counts once. -/
mutual
def uptoBulk {H : Type} : DataW H → Nat
  | .lit (.string bytes) => bytes.length + 1
  | .lit _ => 1
  | .nil => 1
  | .ptr d => uptoBulk d + 1
  | .slice elems spare => uptoBulkAll elems + uptoBulkAll spare + 1
  | .agg parts => uptoBulkAll parts + 1
  | .iface _ d => uptoBulk d + 1
  | .map entries => uptoBulkEntries entries + 1
  | .held _ => 1
def uptoBulkAll {H : Type} : List (DataW H) → Nat
  | [] => 0
  | d :: r => uptoBulk d + uptoBulkAll r
def uptoBulkEntries {H : Type} : List (Lit × DataW H) → Nat
  | [] => 0
  | x :: r => uptoBulkEntry x + uptoBulkEntries r
def uptoBulkEntry {H : Type} : Lit × DataW H → Nat
  | (.string bytes, d) => bytes.length + uptoBulk d + 1
  | (_, d) => uptoBulk d + 1
 end
def uptoSmall : (H : Type) → List (DataW H) → Bool := fun _ ds => decide (uptoBulkAll ds ≤ 1048576)
def OpenSpec.upto (s : _root_.Go.ChangeSpec) : _root_.Go.OpenSpec := { _root_.Go.OpenSpec.ofChange s with cond := some uptoSmall }

/-- 'seedcornlaw52.SelfTexts', WHERE WHAT IT READS IS OF BULK AT MOST 1048576: true; the input reads as it did. -/
def selfTextsUptoRow : OpenClaim := { program := "ytaecpjgmcffliaagreatdoor", sum := "45da6d737efb37420c3b328cbec12398f19b1727dc94e3064767f1e1aeeff7d8", func := "seedcorn/seedcornlaw52.SelfTexts", spec := "selfTexts", inPlace := ["internal/abi.NoEscape"], unfollowed := true, recurses := true, named := ["seedcorn/token.words", "internal/strconv.uint64pow10", "math/bits.deBruijn32tab", "math/bits.deBruijn64tab"], loops := true, apart := false, laid := [("math/bits.deBruijn32tab", laid_math_bits_deBruijn32tab), ("math/bits.deBruijn64tab", laid_math_bits_deBruijn64tab), ("internal/strconv.uint64pow10", laid_internal_strconv_uint64pow10), ("seedcorn/token.words", laid_seedcorn_token_words)], narrowed := true }
def SelfTextsUptoSaid : Prop := selfTextsUptoRow.holds Tryz.pinned (OpenSpec.upto selfTextsSpec)

/-- 'seedcornlaw52.SelfFits', WHERE WHAT IT READS IS OF BULK AT MOST 1048576: true; the input reads as it did. -/
def selfFitsUptoRow : OpenClaim := { program := "ytaecpjgmcffliaagreatdoor", sum := "45da6d737efb37420c3b328cbec12398f19b1727dc94e3064767f1e1aeeff7d8", func := "seedcorn/seedcornlaw52.SelfFits", spec := "selfFits", inPlace := ["internal/abi.NoEscape"], unfollowed := true, recurses := true, named := ["seedcorn/token.words", "internal/strconv.uint64pow10", "math/bits.deBruijn32tab", "math/bits.deBruijn64tab"], loops := true, apart := false, laid := [("math/bits.deBruijn32tab", laid_math_bits_deBruijn32tab), ("math/bits.deBruijn64tab", laid_math_bits_deBruijn64tab), ("internal/strconv.uint64pow10", laid_internal_strconv_uint64pow10), ("seedcorn/token.words", laid_seedcorn_token_words)], narrowed := true }
def SelfFitsUptoSaid : Prop := selfFitsUptoRow.holds Tryz.pinned (OpenSpec.upto selfFitsSpec)

/-- 'seedcornlaw52.SelfCompiles', WHERE WHAT IT READS IS OF BULK AT MOST 1048576: true; the input reads as it did. -/
def selfCompilesUptoRow : OpenClaim := { program := "ytaecpjgmcffliaagreatdoor", sum := "45da6d737efb37420c3b328cbec12398f19b1727dc94e3064767f1e1aeeff7d8", func := "seedcorn/seedcornlaw52.SelfCompiles", spec := "selfCompiles", inPlace := ["internal/abi.NoEscape"], unfollowed := true, recurses := true, named := ["seedcorn/token.words", "internal/strconv.uint64pow10", "math/bits.deBruijn32tab", "math/bits.deBruijn64tab"], loops := true, apart := false, laid := [("math/bits.deBruijn32tab", laid_math_bits_deBruijn32tab), ("math/bits.deBruijn64tab", laid_math_bits_deBruijn64tab), ("internal/strconv.uint64pow10", laid_internal_strconv_uint64pow10), ("seedcorn/token.words", laid_seedcorn_token_words)], narrowed := true }
def SelfCompilesUptoSaid : Prop := selfCompilesUptoRow.holds Tryz.pinned (OpenSpec.upto selfCompilesSpec)

/-- 'seedcornlaw52.SelfAgain', WHERE WHAT IT READS IS OF BULK AT MOST 1048576: true; the input reads as it did. -/
def selfAgainUptoRow : OpenClaim := { program := "ytaecpjgmcffliaagreatdoor", sum := "45da6d737efb37420c3b328cbec12398f19b1727dc94e3064767f1e1aeeff7d8", func := "seedcorn/seedcornlaw52.SelfAgain", spec := "selfAgain", inPlace := ["internal/abi.NoEscape"], unfollowed := true, recurses := true, named := ["seedcorn/token.words", "internal/strconv.uint64pow10", "math/bits.deBruijn32tab", "math/bits.deBruijn64tab"], apart := false, laid := [("math/bits.deBruijn32tab", laid_math_bits_deBruijn32tab), ("math/bits.deBruijn64tab", laid_math_bits_deBruijn64tab), ("internal/strconv.uint64pow10", laid_internal_strconv_uint64pow10), ("seedcorn/token.words", laid_seedcorn_token_words)], narrowed := true }
def SelfAgainUptoSaid : Prop := selfAgainUptoRow.holds Tryz.pinned (OpenSpec.upto selfAgainSpec)

/-- 'seedcornlaw52.SelfParents', WHERE WHAT IT READS IS OF BULK AT MOST 1048576: true; the input reads as it did. -/
def selfParentsUptoRow : OpenClaim := { program := "ytaecpjgmcffliaagreatdoor", sum := "45da6d737efb37420c3b328cbec12398f19b1727dc94e3064767f1e1aeeff7d8", func := "seedcorn/seedcornlaw52.SelfParents", spec := "selfParents", inPlace := ["internal/abi.NoEscape"], unfollowed := true, recurses := true, named := ["seedcorn/token.words", "internal/strconv.uint64pow10", "math/bits.deBruijn32tab", "math/bits.deBruijn64tab"], loops := true, apart := false, laid := [("math/bits.deBruijn32tab", laid_math_bits_deBruijn32tab), ("math/bits.deBruijn64tab", laid_math_bits_deBruijn64tab), ("internal/strconv.uint64pow10", laid_internal_strconv_uint64pow10), ("seedcorn/token.words", laid_seedcorn_token_words)], narrowed := true }
def SelfParentsUptoSaid : Prop := selfParentsUptoRow.holds Tryz.pinned (OpenSpec.upto selfParentsSpec)

/-- 'seedcornlaw52.SelfApart', WHERE WHAT IT READS IS OF BULK AT MOST 1048576: true; the input reads as it did. -/
def selfApartUptoRow : OpenClaim := { program := "ytaecpjgmcffliaagreatdoor", sum := "45da6d737efb37420c3b328cbec12398f19b1727dc94e3064767f1e1aeeff7d8", func := "seedcorn/seedcornlaw52.SelfApart", spec := "selfApart", inPlace := ["internal/abi.NoEscape"], unfollowed := true, recurses := true, named := ["seedcorn/token.words", "internal/strconv.uint64pow10", "math/bits.deBruijn32tab", "math/bits.deBruijn64tab"], loops := true, apart := false, laid := [("math/bits.deBruijn32tab", laid_math_bits_deBruijn32tab), ("math/bits.deBruijn64tab", laid_math_bits_deBruijn64tab), ("internal/strconv.uint64pow10", laid_internal_strconv_uint64pow10), ("seedcorn/token.words", laid_seedcorn_token_words)], narrowed := true }
def SelfApartUptoSaid : Prop := selfApartUptoRow.holds Tryz.pinned (OpenSpec.upto selfApartSpec)

/-- 'seedcornlaw52.SelfSays', WHERE WHAT IT READS IS OF BULK AT MOST 1048576: true; the input reads as it did. -/
def selfSaysUptoRow : OpenClaim := { program := "ytaecpjgmcffliaagreatdoor", sum := "45da6d737efb37420c3b328cbec12398f19b1727dc94e3064767f1e1aeeff7d8", func := "seedcorn/seedcornlaw52.SelfSays", spec := "selfSays", inPlace := ["internal/abi.NoEscape"], unfollowed := true, recurses := true, named := ["seedcorn/token.words", "internal/strconv.uint64pow10", "math/bits.deBruijn32tab", "math/bits.deBruijn64tab"], apart := false, laid := [("math/bits.deBruijn32tab", laid_math_bits_deBruijn32tab), ("math/bits.deBruijn64tab", laid_math_bits_deBruijn64tab), ("internal/strconv.uint64pow10", laid_internal_strconv_uint64pow10), ("seedcorn/token.words", laid_seedcorn_token_words)], narrowed := true }
def SelfSaysUptoSaid : Prop := selfSaysUptoRow.holds Tryz.pinned (OpenSpec.upto selfSaysSpec)

end Rows
end Go.Proofs.YtaecpjgmcffliaaGreatDoor
