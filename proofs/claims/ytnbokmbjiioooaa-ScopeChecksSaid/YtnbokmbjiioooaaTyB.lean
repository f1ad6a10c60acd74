/- The program's types that are met, and its environment: no package-level variable is looked at. -/
import Derived.Test.YtnbokmbjiioooaaSynB
import Derived.Test.YtnbokmbjiioooaaRows
set_option linter.unusedSimpArgs false
set_option linter.unusedVariables false
namespace Go.Proofs.Ytnbokmbjiioooaa
open Go.Al
def gtab : Nat → Option (List AV) := fun _ => none
noncomputable def env : Env := ⟨Try.prog, gtab⟩
theorem envG : env.G = gtab := rfl
theorem draws : env.P.follows .mixedOrders = true := by kernel_rfl
theorem ty_3 : tinfo env.P 3 = some ⟨.int .i64, 1, 8, .int .i64 0⟩ := by kernel_rfl
theorem ty_4 : tinfo env.P 4 = some ⟨.bool, 1, 1, .bool false⟩ := by kernel_rfl
theorem ty_5 : tinfo env.P 5 = some ⟨.int .u8, 1, 1, .int .u8 0⟩ := by kernel_rfl
theorem ty_9 : tinfo env.P 9 = some ⟨.str, 1, 16, .str []⟩ := by kernel_rfl
theorem ty_22 : tinfo env.P 22 = some ⟨.slice 9, 1, 24, .nsl⟩ := by kernel_rfl
theorem ty_23 : tinfo env.P 23 = some ⟨.slice 76, 1, 24, .nsl⟩ := by kernel_rfl
theorem ty_24 : tinfo env.P 24 = some ⟨.slice 50, 1, 24, .nsl⟩ := by kernel_rfl
theorem ty_26 : tinfo env.P 26 = some ⟨.strct [(22, 0), (23, 1), (24, 2)], 3, 72, .agg [.nsl, .nsl, .nsl]⟩ := by kernel_rfl
theorem ty_29 : tinfo env.P 29 = some ⟨.int .i64, 1, 8, .int .i64 0⟩ := by kernel_rfl
theorem ty_32 : tinfo env.P 32 = some ⟨.slice 36, 1, 24, .nsl⟩ := by kernel_rfl
theorem ty_34 : tinfo env.P 34 = some ⟨.slice 35, 1, 24, .nsl⟩ := by kernel_rfl
theorem ty_35 : tinfo env.P 35 = some ⟨.slice 4, 1, 24, .nsl⟩ := by kernel_rfl
theorem ty_36 : tinfo env.P 36 = some ⟨.slice 3, 1, 24, .nsl⟩ := by kernel_rfl
theorem ty_40 : tinfo env.P 40 = some ⟨.slice 47, 1, 24, .nsl⟩ := by kernel_rfl
theorem ty_41 : tinfo env.P 41 = some ⟨.slice 43, 1, 24, .nsl⟩ := by kernel_rfl
theorem ty_43 : tinfo env.P 43 = some ⟨.strct [(3, 0), (9, 1), (40, 2), (41, 3), (41, 4)], 5, 96, .agg [.int .i64 0, .str [], .nsl, .nsl, .nsl]⟩ := by kernel_rfl
theorem ty_45 : tinfo env.P 45 = some ⟨.int .u32, 1, 4, .int .u32 0⟩ := by kernel_rfl
theorem ty_47 : tinfo env.P 47 = some ⟨.strct [(3, 0), (3, 1), (45, 2), (9, 3), (40, 4)], 5, 64, .agg [.int .i64 0, .int .i64 0, .int .u32 0, .str [], .nsl]⟩ := by kernel_rfl
theorem ty_50 : tinfo env.P 50 = some ⟨.strct [(9, 0), (22, 1), (22, 2), (4, 3), (41, 4)], 5, 96, .agg [.str [], .nsl, .nsl, .bool false, .nsl]⟩ := by kernel_rfl
theorem ty_52 : tinfo env.P 52 = some ⟨.slice 57, 1, 24, .nsl⟩ := by kernel_rfl
theorem ty_57 : tinfo env.P 57 = some ⟨.strct [(9, 0), (3, 1), (3, 2)], 3, 32, .agg [.str [], .int .i64 0, .int .i64 0]⟩ := by kernel_rfl
theorem ty_62 : tinfo env.P 62 = some ⟨.map 9 72, 1, 8, .nmp⟩ := by kernel_rfl
theorem ty_67 : tinfo env.P 67 = some ⟨.strct [(62, 0), (62, 1)], 2, 16, .agg [.nmp, .nmp]⟩ := by kernel_rfl
theorem ty_70 : tinfo env.P 70 = some ⟨.strct [(3, 0), (9, 1), (3, 2)], 3, 32, .agg [.int .i64 0, .str [], .int .i64 0]⟩ := by kernel_rfl
theorem ty_72 : tinfo env.P 72 = some ⟨.strct [(3, 0), (3, 1)], 2, 16, .agg [.int .i64 0, .int .i64 0]⟩ := by kernel_rfl
theorem ty_74 : tinfo env.P 74 = some ⟨.func, 1, 8, .nfn⟩ := by kernel_rfl
theorem ty_76 : tinfo env.P 76 = some ⟨.strct [(9, 0), (3, 1)], 2, 24, .agg [.str [], .int .i64 0]⟩ := by kernel_rfl
theorem ty_89 : tinfo env.P 89 = some ⟨.func, 1, 8, .nfn⟩ := by kernel_rfl
theorem ty_90 : tinfo env.P 90 = some ⟨.func, 1, 8, .nfn⟩ := by kernel_rfl
theorem ty_91 : tinfo env.P 91 = some ⟨.slice 5, 1, 24, .nsl⟩ := by kernel_rfl
theorem TY : type_of% (And.intro ty_3 <| And.intro ty_4 <| And.intro ty_5 <| And.intro ty_9 <| And.intro ty_22 <| And.intro ty_23 <| And.intro ty_24 <| And.intro ty_26 <| And.intro ty_29 <| And.intro ty_32 <| And.intro ty_34 <| And.intro ty_35 <| And.intro ty_36 <| And.intro ty_40 <| And.intro ty_41 <| And.intro ty_43 <| And.intro ty_45 <| And.intro ty_47 <| And.intro ty_50 <| And.intro ty_52 <| And.intro ty_57 <| And.intro ty_62 <| And.intro ty_67 <| And.intro ty_70 <| And.intro ty_72 <| And.intro ty_74 <| And.intro ty_76 <| And.intro ty_89 <| And.intro ty_90 <| And.intro ty_91 <| envG) := And.intro ty_3 <| And.intro ty_4 <| And.intro ty_5 <| And.intro ty_9 <| And.intro ty_22 <| And.intro ty_23 <| And.intro ty_24 <| And.intro ty_26 <| And.intro ty_29 <| And.intro ty_32 <| And.intro ty_34 <| And.intro ty_35 <| And.intro ty_36 <| And.intro ty_40 <| And.intro ty_41 <| And.intro ty_43 <| And.intro ty_45 <| And.intro ty_47 <| And.intro ty_50 <| And.intro ty_52 <| And.intro ty_57 <| And.intro ty_62 <| And.intro ty_67 <| And.intro ty_70 <| And.intro ty_72 <| And.intro ty_74 <| And.intro ty_76 <| And.intro ty_89 <| And.intro ty_90 <| And.intro ty_91 <| envG

theorem st_any (W : World) : St env ⟨W, dom emp, old W⟩ (old W) emp W :=
  ⟨fun k hk => hk, fun _ h => h, fun k hk => .inl hk, fun b o h => (by cases h), Ext.refl _ _, fun g row h => (by cases h)⟩
noncomputable def tys : Tys env.P where
  int := 3
  u32 := 45
  str := 9
  bool := 4
  strs := 22
  ex := 47
  exs := 40
  sm := 43
  sms := 41
  ar := 76
  ars := 23
  fu := 50
  fus := 24
  pg := 26
  uInt := by kernel_rfl
  uU32 := by kernel_rfl
  uStr := by kernel_rfl
  uBool := by kernel_rfl
  uStrs := by kernel_rfl
  uEx := by kernel_rfl
  uExs := by kernel_rfl
  uSm := by kernel_rfl
  uSms := by kernel_rfl
  uAr := by kernel_rfl
  uArs := by kernel_rfl
  uFu := by kernel_rfl
  uFus := by kernel_rfl
  uPg := by kernel_rfl
  c1 := by kernel_rfl
  cEx := by kernel_rfl
  cSm := by kernel_rfl
  cAr := by kernel_rfl
  cFu := by kernel_rfl
  cPg := by kernel_rfl
end Go.Proofs.Ytnbokmbjiioooaa
