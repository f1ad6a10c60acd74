/- The program's types that are met, and its environment: no package-level variable is looked at. -/
import Derived.Test.YtlokndnkpleegaaSynB
import Derived.Test.YtlokndnkpleegaaAlAx
import Derived.Test.YtlokndnkpleegaaRows
set_option linter.unusedSimpArgs false
set_option linter.unusedVariables false
set_option maxRecDepth 10000
namespace Go.Proofs.Ytlokndnkpleegaa
open Go.Al
def wordsL : List (List UInt8) := [[118, 97, 114], [97, 114, 114, 97, 121], [102, 117, 110, 99], [119, 111, 114, 100], [105, 102], [101, 108, 115, 101], [119, 104, 105, 108, 101], [114, 101, 116, 117, 114, 110], [112, 117, 116], [103, 101, 116]]
def gtab : Nat → Option (List AV) := fun _ => none
noncomputable def env : Env := ⟨Try.prog, gtab⟩
theorem envG : env.G = gtab := rfl
theorem draws : env.P.follows .mixedOrders = true := by kernel_rfl
theorem ty_3 : tinfo env.P 3 = some ⟨.int .i64, 1, 8, .int .i64 0⟩ := by kernel_rfl
theorem ty_4 : tinfo env.P 4 = some ⟨.bool, 1, 1, .bool false⟩ := by kernel_rfl
theorem ty_5 : tinfo env.P 5 = some ⟨.int .u8, 1, 1, .int .u8 0⟩ := by kernel_rfl
theorem ty_9 : tinfo env.P 9 = some ⟨.str, 1, 16, .str []⟩ := by kernel_rfl
theorem ty_20 : tinfo env.P 20 = some ⟨.iface, 1, 16, .nif⟩ := by kernel_rfl
theorem ty_22 : tinfo env.P 22 = some ⟨.slice 9, 1, 24, .nsl⟩ := by kernel_rfl
theorem ty_23 : tinfo env.P 23 = some ⟨.slice 67, 1, 24, .nsl⟩ := by kernel_rfl
theorem ty_24 : tinfo env.P 24 = some ⟨.slice 52, 1, 24, .nsl⟩ := by kernel_rfl
theorem ty_26 : tinfo env.P 26 = some ⟨.strct [(22, 0), (23, 1), (24, 2)], 3, 72, .agg [.nsl, .nsl, .nsl]⟩ := by kernel_rfl
theorem ty_30 : tinfo env.P 30 = some ⟨.strct [(3, 0), (9, 1), (3, 2)], 3, 32, .agg [.int .i64 0, .str [], .int .i64 0]⟩ := by kernel_rfl
theorem ty_33 : tinfo env.P 33 = some ⟨.array 2 5, 2, 2, .agg [.int .u8 0, .int .u8 0]⟩ := by kernel_rfl
theorem ty_35 : tinfo env.P 35 = some ⟨.slice 38, 1, 24, .nsl⟩ := by kernel_rfl
theorem ty_36 : tinfo env.P 36 = some ⟨.slice 42, 1, 24, .nsl⟩ := by kernel_rfl
theorem ty_38 : tinfo env.P 38 = some ⟨.strct [(3, 0), (9, 1), (36, 2), (35, 3), (35, 4)], 5, 96, .agg [.int .i64 0, .str [], .nsl, .nsl, .nsl]⟩ := by kernel_rfl
theorem ty_40 : tinfo env.P 40 = some ⟨.int .u32, 1, 4, .int .u32 0⟩ := by kernel_rfl
theorem ty_42 : tinfo env.P 42 = some ⟨.strct [(3, 0), (3, 1), (40, 2), (9, 3), (36, 4)], 5, 64, .agg [.int .i64 0, .int .i64 0, .int .u32 0, .str [], .nsl]⟩ := by kernel_rfl
theorem ty_52 : tinfo env.P 52 = some ⟨.strct [(9, 0), (22, 1), (22, 2), (4, 3), (35, 4)], 5, 96, .agg [.str [], .nsl, .nsl, .bool false, .nsl]⟩ := by kernel_rfl
theorem ty_54 : tinfo env.P 54 = some ⟨.slice 5, 1, 24, .nsl⟩ := by kernel_rfl
theorem ty_58 : tinfo env.P 58 = some ⟨.int .i64, 1, 8, .int .i64 0⟩ := by kernel_rfl
theorem ty_67 : tinfo env.P 67 = some ⟨.strct [(9, 0), (3, 1)], 2, 24, .agg [.str [], .int .i64 0]⟩ := by kernel_rfl
theorem ty_70 : tinfo env.P 70 = some ⟨.ptr 76, 1, 8, .npt⟩ := by kernel_rfl
theorem ty_71 : tinfo env.P 71 = some ⟨.slice 82, 1, 24, .nsl⟩ := by kernel_rfl
theorem ty_73 : tinfo env.P 73 = some ⟨.slice 40, 1, 24, .nsl⟩ := by kernel_rfl
theorem ty_74 : tinfo env.P 74 = some ⟨.slice 73, 1, 24, .nsl⟩ := by kernel_rfl
theorem ty_76 : tinfo env.P 76 = some ⟨.strct [(71, 0), (73, 1), (74, 2), (9, 3), (3, 4), (54, 5), (3, 6), (3, 7)], 8, 136, .agg [.nsl, .nsl, .nsl, .str [], .int .i64 0, .nsl, .int .i64 0, .int .i64 0]⟩ := by kernel_rfl
theorem ty_78 : tinfo env.P 78 = some ⟨.strct [(3, 0)], 1, 8, .agg [.int .i64 0]⟩ := by kernel_rfl
theorem ty_79 : tinfo env.P 79 = some ⟨.ptr 82, 1, 8, .npt⟩ := by kernel_rfl
theorem ty_80 : tinfo env.P 80 = some ⟨.slice 107, 1, 24, .nsl⟩ := by kernel_rfl
theorem ty_82 : tinfo env.P 82 = some ⟨.strct [(3, 0), (80, 1)], 2, 32, .agg [.int .i64 0, .nsl]⟩ := by kernel_rfl
theorem ty_85 : tinfo env.P 85 = some ⟨.ptr 87, 1, 8, .npt⟩ := by kernel_rfl
theorem ty_87 : tinfo env.P 87 = some ⟨.strct [(26, 0), (9, 3), (3, 4), (73, 5), (74, 6), (54, 7), (3, 8), (3, 9), (3, 10)], 11, 192, .agg [.nsl, .nsl, .nsl, .str [], .int .i64 0, .nsl, .nsl, .nsl, .int .i64 0, .int .i64 0, .int .i64 0]⟩ := by kernel_rfl
theorem ty_92 : tinfo env.P 92 = some ⟨.ptr 94, 1, 8, .npt⟩ := by kernel_rfl
theorem ty_94 : tinfo env.P 94 = some ⟨.strct [(3, 0), (73, 1), (4, 2), (40, 3)], 4, 40, .agg [.int .i64 0, .nsl, .bool false, .int .u32 0]⟩ := by kernel_rfl
theorem ty_97 : tinfo env.P 97 = some ⟨.map 9 99, 1, 8, .nmp⟩ := by kernel_rfl
theorem ty_99 : tinfo env.P 99 = some ⟨.strct [(4, 0), (3, 1)], 2, 16, .agg [.bool false, .int .i64 0]⟩ := by kernel_rfl
theorem ty_101 : tinfo env.P 101 = some ⟨.strct [(97, 0), (97, 1)], 2, 16, .agg [.nmp, .nmp]⟩ := by kernel_rfl
theorem ty_104 : tinfo env.P 104 = some ⟨.ptr 107, 1, 8, .npt⟩ := by kernel_rfl
theorem ty_105 : tinfo env.P 105 = some ⟨.slice 125, 1, 24, .nsl⟩ := by kernel_rfl
theorem ty_107 : tinfo env.P 107 = some ⟨.strct [(3, 0), (4, 1), (3, 2), (105, 3), (80, 4), (80, 5)], 6, 96, .agg [.int .i64 0, .bool false, .int .i64 0, .nsl, .nsl, .nsl]⟩ := by kernel_rfl
theorem ty_114 : tinfo env.P 114 = some ⟨.int .u64, 1, 8, .int .u64 0⟩ := by kernel_rfl
theorem ty_123 : tinfo env.P 123 = some ⟨.ptr 125, 1, 8, .npt⟩ := by kernel_rfl
theorem ty_125 : tinfo env.P 125 = some ⟨.strct [(3, 0), (3, 1), (40, 2), (4, 3), (3, 4), (105, 5)], 6, 56, .agg [.int .i64 0, .int .i64 0, .int .u32 0, .bool false, .int .i64 0, .nsl]⟩ := by kernel_rfl
theorem ty_137 : tinfo env.P 137 = some ⟨.slice 140, 1, 24, .nsl⟩ := by kernel_rfl
theorem ty_140 : tinfo env.P 140 = some ⟨.strct [(9, 0), (3, 1), (3, 2)], 3, 32, .agg [.str [], .int .i64 0, .int .i64 0]⟩ := by kernel_rfl
theorem ty_146 : tinfo env.P 146 = some ⟨.slice 3, 1, 24, .nsl⟩ := by kernel_rfl
theorem eq_30 : eqKinds env.P 30 = some [.int .i64, .str, .int .i64] := by kernel_rfl
theorem TY : type_of% (And.intro ty_3 <| And.intro ty_4 <| And.intro ty_5 <| And.intro ty_9 <| And.intro ty_20 <| And.intro ty_22 <| And.intro ty_23 <| And.intro ty_24 <| And.intro ty_26 <| And.intro ty_30 <| And.intro ty_33 <| And.intro ty_35 <| And.intro ty_36 <| And.intro ty_38 <| And.intro ty_40 <| And.intro ty_42 <| And.intro ty_52 <| And.intro ty_54 <| And.intro ty_58 <| And.intro ty_67 <| And.intro ty_70 <| And.intro ty_71 <| And.intro ty_73 <| And.intro ty_74 <| And.intro ty_76 <| And.intro ty_78 <| And.intro ty_79 <| And.intro ty_80 <| And.intro ty_82 <| And.intro ty_85 <| And.intro ty_87 <| And.intro ty_92 <| And.intro ty_94 <| And.intro ty_97 <| And.intro ty_99 <| And.intro ty_101 <| And.intro ty_104 <| And.intro ty_105 <| And.intro ty_107 <| And.intro ty_114 <| And.intro ty_123 <| And.intro ty_125 <| And.intro ty_137 <| And.intro ty_140 <| And.intro ty_146 <| And.intro eq_30 <| envG) := And.intro ty_3 <| And.intro ty_4 <| And.intro ty_5 <| And.intro ty_9 <| And.intro ty_20 <| And.intro ty_22 <| And.intro ty_23 <| And.intro ty_24 <| And.intro ty_26 <| And.intro ty_30 <| And.intro ty_33 <| And.intro ty_35 <| And.intro ty_36 <| And.intro ty_38 <| And.intro ty_40 <| And.intro ty_42 <| And.intro ty_52 <| And.intro ty_54 <| And.intro ty_58 <| And.intro ty_67 <| And.intro ty_70 <| And.intro ty_71 <| And.intro ty_73 <| And.intro ty_74 <| And.intro ty_76 <| And.intro ty_78 <| And.intro ty_79 <| And.intro ty_80 <| And.intro ty_82 <| And.intro ty_85 <| And.intro ty_87 <| And.intro ty_92 <| And.intro ty_94 <| And.intro ty_97 <| And.intro ty_99 <| And.intro ty_101 <| And.intro ty_104 <| And.intro ty_105 <| And.intro ty_107 <| And.intro ty_114 <| And.intro ty_123 <| And.intro ty_125 <| And.intro ty_137 <| And.intro ty_140 <| And.intro ty_146 <| And.intro eq_30 <| envG

theorem RR : type_of% (And.intro AX TY) := And.intro AX TY
theorem st_any (W : World) : St env ⟨W, dom emp, old W, [], fun _ => Go.undef⟩ (old W) emp W :=
  ⟨fun k hk => hk, fun _ h => h, fun k hk => .inl hk, fun b o h => (by cases h), Ext.refl _ _, fun g row h => (by cases h)⟩
noncomputable def tys : Tys env.P where
  int := 3
  u32 := 40
  str := 9
  bool := 4
  strs := 22
  ex := 42
  exs := 36
  sm := 38
  sms := 35
  ar := 67
  ars := 23
  fu := 52
  fus := 24
  pg := 26
  uInt := by kernel_rfl
  uU32 := by kernel_rfl
  uStr := by kernel_rfl
  uBool := by kernel_rfl
  uStrs := by kernel_rfl
  uEx := by kernel_rfl
  uExs := by kernel_rfl
  uSm := by kernel_rfl
  uSms := by kernel_rfl
  uAr := by kernel_rfl
  uArs := by kernel_rfl
  uFu := by kernel_rfl
  uFus := by kernel_rfl
  uPg := by kernel_rfl
  c1 := by kernel_rfl
  cEx := by kernel_rfl
  cSm := by kernel_rfl
  cAr := by kernel_rfl
  cFu := by kernel_rfl
  cPg := by kernel_rfl
end Go.Proofs.Ytlokndnkpleegaa
