/- Chapter 13: the program's types that are met, and its two tables. -/
import Derived.Test.YtcfapbmjaiipjaaDoorAlR
import Derived.Test.YtcfapbmjaiipjaaDoorRows
set_option linter.unusedSimpArgs false
set_option linter.unusedVariables false
namespace Go.Proofs.YtcfapbmjaiipjaaDoor
open Go.Al
def wordsL : List (List UInt8) := [[118, 97, 114], [97, 114, 114, 97, 121], [102, 117, 110, 99], [119, 111, 114, 100], [105, 102], [101, 108, 115, 101], [119, 104, 105, 108, 101], [114, 101, 116, 117, 114, 110], [112, 117, 116], [103, 101, 116]]
def signsL : List (List UInt8) := [[60, 60], [62, 62], [61, 61], [38, 38], [124, 124], [40], [41], [123], [125], [91], [93], [59], [44], [61], [43], [45], [42], [47], [37], [38], [124], [94], [60], [33]]
def gtab : Nat → Option (List AV)
  | 1 => some (wordsL.map .str)
  | 0 => some (signsL.map .str)
  | _ => none
noncomputable def env : Env := ⟨Tryd.prog, gtab⟩
theorem g_words : gtab 1 = some (wordsL.map .str) := rfl
theorem g_signs : gtab 0 = some (signsL.map .str) := rfl
theorem envG : env.G = gtab := rfl
theorem draws : env.P.follows .mixedOrders = true := by kernel_rfl
theorem ty_u8 : tinfo env.P 5 = some ⟨.int .u8, 1, 1, .int .u8 0⟩ := by kernel_rfl
theorem ty_int : tinfo env.P 3 = some ⟨.int .i64, 1, 8, .int .i64 0⟩ := by kernel_rfl
theorem ty_bool : tinfo env.P 4 = some ⟨.bool, 1, 1, .bool false⟩ := by kernel_rfl
theorem ty_str : tinfo env.P 9 = some ⟨.str, 1, 16, .str []⟩ := by kernel_rfl
theorem ty_u32 : tinfo env.P 27 = some ⟨.int .u32, 1, 4, .int .u32 0⟩ := by kernel_rfl
theorem ty_u64 : tinfo env.P 49 = some ⟨.int .u64, 1, 8, .int .u64 0⟩ := by kernel_rfl
theorem ty_errno : tinfo env.P 24 = some ⟨.int .i64, 1, 8, .int .i64 0⟩ := by kernel_rfl
theorem ty_tok : tinfo env.P 29 = some ⟨.strct [(3, 0), (9, 1), (27, 2), (3, 3)], 4, 40, .agg [.int .i64 0, .str [], .int .u32 0, .int .i64 0]⟩ := by kernel_rfl
theorem ty_toks : tinfo env.P 23 = some ⟨.slice 29, 1, 24, .nsl⟩ := by kernel_rfl
theorem ty_strs : tinfo env.P 43 = some ⟨.slice 9, 1, 24, .nsl⟩ := by kernel_rfl
theorem ty_a10 : tinfo env.P 48 = some ⟨.array 10 9, 10, 160, .agg [.str [], .str [], .str [], .str [], .str [], .str [], .str [], .str [], .str [], .str []]⟩ := by kernel_rfl
theorem ty_a24 : tinfo env.P 46 = some ⟨.array 24 9, 24, 384, .agg [.str [], .str [], .str [], .str [], .str [], .str [], .str [], .str [], .str [], .str [], .str [], .str [], .str [], .str [], .str [], .str [], .str [], .str [], .str [], .str [], .str [], .str [], .str [], .str []]⟩ := by kernel_rfl
theorem eq_tok : eqKinds env.P 29 = some [.int .i64, .str, .int .u32, .int .i64] := by kernel_rfl
end Go.Proofs.YtcfapbmjaiipjaaDoor
