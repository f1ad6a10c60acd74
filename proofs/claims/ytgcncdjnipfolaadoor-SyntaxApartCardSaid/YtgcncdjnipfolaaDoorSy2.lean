/- The program's types that are met, and its environment: three tables are looked at. The names of the language: the judge's small functions of chapter 13. Chapter 14, the judge's: has a program few parts? Chapter 14, the judge's: has a program few parts? Second part. Chapter 14, the judge's: may an expression be? Chapter 14, the judge's: may a program be? Chapter 14, the judge's: may a program be? Second part. -/
import Derived.Test.YtgcncdjnipfolaaDoorSy1
import Derived.Test.YtgcncdjnipfolaaDoorAl4
import Derived.Test.YtgcncdjnipfolaaDoorRows
set_option linter.unusedSimpArgs false
set_option linter.unusedVariables false
set_option maxRecDepth 10000
namespace Go.Proofs.YtgcncdjnipfolaaDoor
open Go.Al
def wordsL : List (List UInt8) := [[118, 97, 114], [97, 114, 114, 97, 121], [102, 117, 110, 99], [119, 111, 114, 100], [105, 102], [101, 108, 115, 101], [119, 104, 105, 108, 101], [114, 101, 116, 117, 114, 110], [112, 117, 116], [103, 101, 116]]
def opL : List (List UInt8) := [[43], [45], [42], [47], [37], [38], [124], [94], [60, 60], [62, 62], [60], [61, 61]]
def powL : List AV := [.int .u64 1, .int .u64 10, .int .u64 100, .int .u64 1000, .int .u64 10000, .int .u64 100000, .int .u64 1000000, .int .u64 10000000, .int .u64 100000000, .int .u64 1000000000, .int .u64 10000000000, .int .u64 100000000000, .int .u64 1000000000000, .int .u64 10000000000000, .int .u64 100000000000000, .int .u64 1000000000000000, .int .u64 10000000000000000, .int .u64 100000000000000000, .int .u64 1000000000000000000, .int .u64 10000000000000000000]
def gtab : Nat → Option (List AV)
  | 1 => some (wordsL.map .str)
  | 0 => some (opL.map .str)
  | 3 => some powL
  | _ => none
noncomputable def env : Env := ⟨Tryd.prog, gtab⟩
theorem envG : env.G = gtab := rfl
theorem draws : env.P.follows .mixedOrders = true := by kernel_rfl
theorem ty_3 : tinfo env.P 3 = some ⟨.int .i64, 1, 8, .int .i64 0⟩ := by kernel_rfl
theorem ty_4 : tinfo env.P 4 = some ⟨.bool, 1, 1, .bool false⟩ := by kernel_rfl
theorem ty_5 : tinfo env.P 5 = some ⟨.int .u8, 1, 1, .int .u8 0⟩ := by kernel_rfl
theorem ty_9 : tinfo env.P 9 = some ⟨.str, 1, 16, .str []⟩ := by kernel_rfl
theorem ty_22 : tinfo env.P 22 = some ⟨.slice 9, 1, 24, .nsl⟩ := by kernel_rfl
theorem ty_23 : tinfo env.P 23 = some ⟨.slice 51, 1, 24, .nsl⟩ := by kernel_rfl
theorem ty_24 : tinfo env.P 24 = some ⟨.slice 45, 1, 24, .nsl⟩ := by kernel_rfl
theorem ty_26 : tinfo env.P 26 = some ⟨.strct [(22, 0), (23, 1), (24, 2)], 3, 72, .agg [.nsl, .nsl, .nsl]⟩ := by kernel_rfl
theorem ty_33 : tinfo env.P 33 = some ⟨.int .u32, 1, 4, .int .u32 0⟩ := by kernel_rfl
theorem ty_34 : tinfo env.P 34 = some ⟨.slice 36, 1, 24, .nsl⟩ := by kernel_rfl
theorem ty_36 : tinfo env.P 36 = some ⟨.strct [(3, 0), (3, 1), (33, 2), (9, 3), (34, 4)], 5, 64, .agg [.int .i64 0, .int .i64 0, .int .u32 0, .str [], .nsl]⟩ := by kernel_rfl
theorem ty_41 : tinfo env.P 41 = some ⟨.slice 43, 1, 24, .nsl⟩ := by kernel_rfl
theorem ty_43 : tinfo env.P 43 = some ⟨.strct [(3, 0), (9, 1), (34, 2), (41, 3), (41, 4)], 5, 96, .agg [.int .i64 0, .str [], .nsl, .nsl, .nsl]⟩ := by kernel_rfl
theorem ty_45 : tinfo env.P 45 = some ⟨.strct [(9, 0), (22, 1), (22, 2), (4, 3), (41, 4)], 5, 96, .agg [.str [], .nsl, .nsl, .bool false, .nsl]⟩ := by kernel_rfl
theorem ty_51 : tinfo env.P 51 = some ⟨.strct [(9, 0), (3, 1)], 2, 24, .agg [.str [], .int .i64 0]⟩ := by kernel_rfl
theorem ty_58 : tinfo env.P 58 = some ⟨.ptr 61, 1, 8, .npt⟩ := by kernel_rfl
theorem ty_59 : tinfo env.P 59 = some ⟨.slice 5, 1, 24, .nsl⟩ := by kernel_rfl
theorem ty_61 : tinfo env.P 61 = some ⟨.strct [(58, 0), (59, 1)], 2, 32, .agg [.npt, .nsl]⟩ := by kernel_rfl
theorem ty_63 : tinfo env.P 63 = some ⟨.strct [(61, 0)], 2, 32, .agg [.npt, .nsl]⟩ := by kernel_rfl
theorem ty_79 : tinfo env.P 79 = some ⟨.ptr 63, 1, 8, .npt⟩ := by kernel_rfl
theorem ty_86 : tinfo env.P 86 = some ⟨.int .u64, 1, 8, .int .u64 0⟩ := by kernel_rfl
theorem ty_88 : tinfo env.P 88 = some ⟨.ptr 5, 1, 8, .npt⟩ := by kernel_rfl
theorem ty_90 : tinfo env.P 90 = some ⟨.func, 1, 8, .nfn⟩ := by kernel_rfl
theorem ty_95 : tinfo env.P 95 = some ⟨.array 12 9, 12, 192, .agg [.str [], .str [], .str [], .str [], .str [], .str [], .str [], .str [], .str [], .str [], .str [], .str []]⟩ := by kernel_rfl
theorem ty_96 : tinfo env.P 96 = some ⟨.array 10 9, 10, 160, .agg [.str [], .str [], .str [], .str [], .str [], .str [], .str [], .str [], .str [], .str []]⟩ := by kernel_rfl
theorem ty_97 : tinfo env.P 97 = some ⟨.other, 1, 8, .npt⟩ := by kernel_rfl
theorem ty_100 : tinfo env.P 100 = some ⟨.array 24 5, 24, 24, .agg [.int .u8 0, .int .u8 0, .int .u8 0, .int .u8 0, .int .u8 0, .int .u8 0, .int .u8 0, .int .u8 0, .int .u8 0, .int .u8 0, .int .u8 0, .int .u8 0, .int .u8 0, .int .u8 0, .int .u8 0, .int .u8 0, .int .u8 0, .int .u8 0, .int .u8 0, .int .u8 0, .int .u8 0, .int .u8 0, .int .u8 0, .int .u8 0]⟩ := by kernel_rfl
theorem ty_107 : tinfo env.P 107 = some ⟨.array 20 86, 20, 160, .agg [.int .u64 0, .int .u64 0, .int .u64 0, .int .u64 0, .int .u64 0, .int .u64 0, .int .u64 0, .int .u64 0, .int .u64 0, .int .u64 0, .int .u64 0, .int .u64 0, .int .u64 0, .int .u64 0, .int .u64 0, .int .u64 0, .int .u64 0, .int .u64 0, .int .u64 0, .int .u64 0]⟩ := by kernel_rfl
theorem ty_108 : tinfo env.P 108 = some ⟨.array 65 5, 65, 65, .agg [.int .u8 0, .int .u8 0, .int .u8 0, .int .u8 0, .int .u8 0, .int .u8 0, .int .u8 0, .int .u8 0, .int .u8 0, .int .u8 0, .int .u8 0, .int .u8 0, .int .u8 0, .int .u8 0, .int .u8 0, .int .u8 0, .int .u8 0, .int .u8 0, .int .u8 0, .int .u8 0, .int .u8 0, .int .u8 0, .int .u8 0, .int .u8 0, .int .u8 0, .int .u8 0, .int .u8 0, .int .u8 0, .int .u8 0, .int .u8 0, .int .u8 0, .int .u8 0, .int .u8 0, .int .u8 0, .int .u8 0, .int .u8 0, .int .u8 0, .int .u8 0, .int .u8 0, .int .u8 0, .int .u8 0, .int .u8 0, .int .u8 0, .int .u8 0, .int .u8 0, .int .u8 0, .int .u8 0, .int .u8 0, .int .u8 0, .int .u8 0, .int .u8 0, .int .u8 0, .int .u8 0, .int .u8 0, .int .u8 0, .int .u8 0, .int .u8 0, .int .u8 0, .int .u8 0, .int .u8 0, .int .u8 0, .int .u8 0, .int .u8 0, .int .u8 0, .int .u8 0]⟩ := by kernel_rfl
theorem ty_110 : tinfo env.P 110 = some ⟨.int .u64, 1, 8, .int .u64 0⟩ := by kernel_rfl
theorem ty_113 : tinfo env.P 113 = some ⟨.array 32 5, 32, 32, .agg [.int .u8 0, .int .u8 0, .int .u8 0, .int .u8 0, .int .u8 0, .int .u8 0, .int .u8 0, .int .u8 0, .int .u8 0, .int .u8 0, .int .u8 0, .int .u8 0, .int .u8 0, .int .u8 0, .int .u8 0, .int .u8 0, .int .u8 0, .int .u8 0, .int .u8 0, .int .u8 0, .int .u8 0, .int .u8 0, .int .u8 0, .int .u8 0, .int .u8 0, .int .u8 0, .int .u8 0, .int .u8 0, .int .u8 0, .int .u8 0, .int .u8 0, .int .u8 0]⟩ := by kernel_rfl
theorem ty_114 : tinfo env.P 114 = some ⟨.array 64 5, 64, 64, .agg [.int .u8 0, .int .u8 0, .int .u8 0, .int .u8 0, .int .u8 0, .int .u8 0, .int .u8 0, .int .u8 0, .int .u8 0, .int .u8 0, .int .u8 0, .int .u8 0, .int .u8 0, .int .u8 0, .int .u8 0, .int .u8 0, .int .u8 0, .int .u8 0, .int .u8 0, .int .u8 0, .int .u8 0, .int .u8 0, .int .u8 0, .int .u8 0, .int .u8 0, .int .u8 0, .int .u8 0, .int .u8 0, .int .u8 0, .int .u8 0, .int .u8 0, .int .u8 0, .int .u8 0, .int .u8 0, .int .u8 0, .int .u8 0, .int .u8 0, .int .u8 0, .int .u8 0, .int .u8 0, .int .u8 0, .int .u8 0, .int .u8 0, .int .u8 0, .int .u8 0, .int .u8 0, .int .u8 0, .int .u8 0, .int .u8 0, .int .u8 0, .int .u8 0, .int .u8 0, .int .u8 0, .int .u8 0, .int .u8 0, .int .u8 0, .int .u8 0, .int .u8 0, .int .u8 0, .int .u8 0, .int .u8 0, .int .u8 0, .int .u8 0, .int .u8 0]⟩ := by kernel_rfl
theorem eq_51 : eqKinds env.P 51 = some [.str, .int .i64] := by kernel_rfl
theorem TY : type_of% (And.intro ty_3 <| And.intro ty_4 <| And.intro ty_5 <| And.intro ty_9 <| And.intro ty_22 <| And.intro ty_23 <| And.intro ty_24 <| And.intro ty_26 <| And.intro ty_33 <| And.intro ty_34 <| And.intro ty_36 <| And.intro ty_41 <| And.intro ty_43 <| And.intro ty_45 <| And.intro ty_51 <| And.intro ty_58 <| And.intro ty_59 <| And.intro ty_61 <| And.intro ty_63 <| And.intro ty_79 <| And.intro ty_86 <| And.intro ty_88 <| And.intro ty_90 <| And.intro ty_95 <| And.intro ty_96 <| And.intro ty_97 <| And.intro ty_100 <| And.intro ty_107 <| And.intro ty_108 <| And.intro ty_110 <| And.intro ty_113 <| And.intro ty_114 <| And.intro eq_51 <| envG) := And.intro ty_3 <| And.intro ty_4 <| And.intro ty_5 <| And.intro ty_9 <| And.intro ty_22 <| And.intro ty_23 <| And.intro ty_24 <| And.intro ty_26 <| And.intro ty_33 <| And.intro ty_34 <| And.intro ty_36 <| And.intro ty_41 <| And.intro ty_43 <| And.intro ty_45 <| And.intro ty_51 <| And.intro ty_58 <| And.intro ty_59 <| And.intro ty_61 <| And.intro ty_63 <| And.intro ty_79 <| And.intro ty_86 <| And.intro ty_88 <| And.intro ty_90 <| And.intro ty_95 <| And.intro ty_96 <| And.intro ty_97 <| And.intro ty_100 <| And.intro ty_107 <| And.intro ty_108 <| And.intro ty_110 <| And.intro ty_113 <| And.intro ty_114 <| And.intro eq_51 <| envG

theorem g_words : gtab 1 = some (wordsL.map .str) := rfl
theorem g_ops : gtab 0 = some (opL.map .str) := rfl
theorem g_pow : gtab 3 = some powL := rfl
theorem RR : type_of% (And.intro AX <| And.intro g_words <| And.intro g_ops TY) := And.intro AX <| And.intro g_words <| And.intro g_ops TY
noncomputable def tys : Tys env.P where
  int := 3
  u32 := 33
  str := 9
  bool := 4
  strs := 22
  ex := 36
  exs := 34
  sm := 43
  sms := 41
  ar := 51
  ars := 23
  fu := 45
  fus := 24
  pg := 26
  uInt := by kernel_rfl
  uU32 := by kernel_rfl
  uStr := by kernel_rfl
  uBool := by kernel_rfl
  uStrs := by kernel_rfl
  uEx := by kernel_rfl
  uExs := by kernel_rfl
  uSm := by kernel_rfl
  uSms := by kernel_rfl
  uAr := by kernel_rfl
  uArs := by kernel_rfl
  uFu := by kernel_rfl
  uFus := by kernel_rfl
  uPg := by kernel_rfl
  c1 := by kernel_rfl
  cEx := by kernel_rfl
  cSm := by kernel_rfl
  cAr := by kernel_rfl
  cFu := by kernel_rfl
  cPg := by kernel_rfl
end Go.Proofs.YtgcncdjnipfolaaDoor

namespace Go.Proofs.YtgcncdjnipfolaaDoor
open Go.Al
def digI (c : Int) : Bool := decide (48 ≤ c) && decide (c ≤ 57)
def alphI (c : Int) : Bool := decide (97 ≤ c) && decide (c ≤ 122) || decide (65 ≤ c) && decide (c ≤ 90)
def inI (c : Int) : Bool := alphI c || digI c || decide (c = 95)
def isN (c : UInt8) : Bool := inI c.toNat
theorem rdigit_con (c : Int) : PCon env 76 [.int .u8 c] (.bool (digI c)) := by
  refine con_of 9 [.tmp 2] Tryd.func76 rfl rfl rfl rfl ?_
  refine awp_seq_k fun K hK => ?_; refine awp_region rfl ?_; simp only [RR, seval]
  refine hK _ _ ?_; clear hK K
  refine awp_seq_k fun K hK => ?_; refine awp_region rfl ?_; simp only [RR, seval]
  repeat' ((first | refine awpG_splitN (fun h => ?_) (fun h => ?_) | refine awpG_split (fun h => ?_) (fun h => ?_)) <;> simp only [h, RR, seval])
  all_goals
    refine hK _ _ ?_; clear hK K
    refine awp_ret ?_; simp only [thenQ, blockQ, bodyQ, aresult, ares, argF, RR, seval]; refine Gives.pure ?_
    simp [digI, *]
theorem ralpha_con (c : Int) : PCon env 73 [.int .u8 c] (.bool (alphI c)) := by
  refine con_of 17 [.tmp 2] Tryd.func73 rfl rfl rfl rfl ?_
  refine awp_seq_k fun K hK => ?_; refine awp_region rfl ?_; simp only [RR, seval]
  refine hK _ _ ?_; clear hK K
  refine awp_seq_k fun K hK => ?_; refine awp_region rfl ?_; simp only [RR, seval]
  repeat' ((first | refine awpG_splitN (fun h => ?_) (fun h => ?_) | refine awpG_split (fun h => ?_) (fun h => ?_)) <;> simp only [h, RR, seval])
  all_goals
    refine hK _ _ ?_; clear hK K
    refine awp_ret ?_; simp only [thenQ, blockQ, bodyQ, aresult, ares, argF, RR, seval]; refine Gives.pure ?_
    simp [alphI, *]
theorem words_con : PCon env 75 [] (.isl 1 (wordsL.map fun w => [.str w])) := by
  refine con_of 2 [.tmp 0] Tryd.func75 rfl rfl rfl rfl ?_
  refine awp_seq_k fun K hK => ?_; refine awp_region rfl ?_; simp only [RR, seval]
  refine hK _ _ ?_; clear hK K
  refine awp_seq_k fun K hK => ?_; refine awp_region rfl ?_; simp only [RR, seval]
  refine awpB_sealed ?_
  simp only [RR, seval]
  refine hK _ _ ?_; clear hK K
  refine awp_ret ?_; simp only [thenQ, blockQ, bodyQ, aresult, ares, argF, RR, seval]; refine Gives.pure ?_
  rfl
theorem in_con (ws : List (List UInt8)) (s : List UInt8) (hl : ws.length ≤ 1000000) : PCon env 74 [.isl 1 (ws.map fun w => [.str w]), .str s] (.bool (ws.contains s)) := by
  refine con_of 18 [.tmp 4] Tryd.func74 rfl rfl rfl rfl ?_
  refine awp_seq_k fun K hK => ?_; refine awp_region rfl ?_; simp only [RR, seval]
  refine hK _ _ ?_; clear hK K
  refine awp_cut (fun fr H => ws.contains s = false) ?_ ?_
  · refine awp_seq_k fun K hK => ?_; refine awp_region rfl ?_; simp only [RR, seval]
    refine hK _ _ ?_; clear hK K
    refine awp_block ?_
    refine awp_loop (fun n fr H => ∃ i : Nat, n = ws.length - i ∧ i ≤ ws.length ∧ (ws.take i).contains s = false ∧ fr 0 = .isl 1 (ws.map fun w => [.str w]) ∧ fr 1 = .str s ∧ fr 5 = .int .i64 i) ws.length ⟨0, rfl, by omega, rfl, rfl, rfl, rfl⟩ ?_
    rintro n fr H ⟨i, rfl, hi, hw, h0, h1, h5⟩
    refine awp_seq ?_
    refine awp_seq_k fun K hK => ?_; refine awp_region rfl ?_; simp only [RR, seval]
    simp only [h0, h5, RR, seval]
    refine hK _ _ ?_; clear hK K
    refine awp_if _ rfl (fun hc => ?_) (fun hc => ?_)
    · refine awp_skip ?_; simp only [thenQ, blockQ]
      have hi2 : (i : Int) < (ws.map fun w => [AV.str w]).length := of_decide_eq_true hc
      simp only [List.length_map] at hi2
      have hl : i < ws.length := by omega
      have hg : (ws.map fun w => [AV.str w])[i]? = some [.str ws[i]] := by rw [List.getElem?_map, List.getElem?_eq_getElem hl]; rfl
      refine awp_seq ?_
      refine awp_block ?_
      refine awp_seq_k fun K hK => ?_; refine awp_region rfl ?_; simp only [RR, seval]
      simp only [h0, h1, h5, hg, RR, seval]
      refine hK _ _ ?_; clear hK K
      refine awp_if _ rfl (fun hc => ?_) (fun hc => ?_)
      · refine awp_seq_k fun K hK => ?_; refine awp_region rfl ?_; simp only [RR, seval]
        refine hK _ _ ?_; clear hK K
        refine awp_ret ?_; simp only [thenQ, blockQ, bodyQ, aresult, ares, argF, RR, seval]; refine Gives.pure ?_
        have : ws[i] = s := of_decide_eq_true hc
        rw [← this]
        simp
      · refine awp_skip ?_; simp only [thenQ, blockQ]
        refine awp_region rfl ?_; simp only [RR, seval]
        simp only [h0, h1, h5, RR, seval]
        refine ⟨ws.length - (i + 1), by omega, i + 1, rfl, by omega, ?_, ?_⟩
        · have hne : ¬ ws[i] = s := of_decide_eq_false hc
          rw [List.take_succ_eq_append_getElem hl]
          simp only [List.contains_append, hw, Bool.false_or]
          simp [Ne.symm hne]
        · rw [IntWalk.i64_in _ (by omega)]; rfl
    · refine awp_exit ?_; simp only [thenQ, blockQ, reduceIte, Nat.reduceEqDiff]
      have hi2 : ¬ (i : Int) < (ws.map fun w => [AV.str w]).length := of_decide_eq_false hc
      simp only [List.length_map] at hi2
      have : i = ws.length := by omega
      subst this
      rw [List.take_length] at hw
      exact hw
  · intro fr H h
    refine awp_seq_k fun K hK => ?_; refine awp_region rfl ?_; simp only [RR, seval]
    refine hK _ _ ?_; clear hK K
    refine awp_ret ?_; simp only [thenQ, blockQ, bodyQ, aresult, ares, argF, RR, seval]; refine Gives.pure ?_
    rw [h]
def nameB (s : List UInt8) : Bool := match s with
  | [] => false
  | c :: r => decide ((c :: r).length ≤ 20) && (alphI c.toNat && (decide ((c :: r).takeWhile isN = c :: r) && !wordsL.contains (c :: r)))
theorem takeWhile_all (p : UInt8 → Bool) : ∀ s : List UInt8, decide (s.takeWhile p = s) = s.all p
  | [] => rfl
  | c :: s => by
    cases h : p c with
    | true =>
      simp only [List.takeWhile, h, List.all_cons, Bool.true_and, List.cons.injEq, true_and]
      exact takeWhile_all p s
    | false => simp [List.takeWhile, h]
theorem rName_con (s : List UInt8) (hs : fitL s) : PCon env 55 [.str s] (.bool (nameB s)) := by
  have hs : s.length ≤ 9223372036854775807 := hs
  refine con_of 47 [.tmp 2] Tryd.func55 rfl rfl rfl rfl ?_
  refine awp_seq_k fun K hK => ?_; refine awp_region rfl ?_; simp only [RR, seval]
  refine hK _ _ ?_; clear hK K
  refine awp_seq ?_
  refine awp_cutK (fun fr H => ∃ t, fr 22 = .bool t ∧ fr 0 = .str s ∧ (t = true → nameB s = false) ∧ (t = false → nameB s = s.all isN)) (fun K hK => ?_) ?_
  · cases hsc : s with
    | nil =>
      refine awp_region rfl ?_; simp only [RR, seval]
      exact hK _ _ ⟨true, rfl, by rw [hsc]; rfl, fun _ => by rw [hsc]; rfl, fun e => by cases e⟩
    | cons c r =>
      have h0 : (c :: r)[0]? = some c := rfl
      have hne : decide (((c :: r).length : Int) = 0) = false := decide_eq_false (by simp only [List.length_cons]; omega)
      rw [← hsc] at h0 hne ⊢
      have hB : nameB s = (decide (s.length ≤ 20) && (alphI c.toNat && (s.all isN && !wordsL.contains s))) := by rw [← takeWhile_all, hsc]; rfl
      clear hsc
      refine awp_region rfl ?_; simp only [RR, seval]
      simp only [hne, h0, RR, seval]
      refine awpG_splitN (fun h => ?_) (fun h => ?_) <;> simp only [h, h0, RR, seval]
      · have hl : decide (s.length ≤ 20) = true := decide_eq_true (by have := of_decide_eq_false h; omega)
        refine awpC_pure' (ralpha_con _) ?_
        simp only [RR, seval]
        refine awpG_splitN (fun ha => ?_) (fun ha => ?_)
        · have ha : alphI c.toNat = true := by simpa using ha
          simp only [ha, h0, RR, seval]
          refine awpC_pure' words_con ?_
          simp only [RR, seval]
          refine awpC_pure' (in_con wordsL s (by decide)) ?_
          simp only [RR, seval]
          refine hK _ _ ⟨_, rfl, rfl, fun e => ?_, fun e => ?_⟩
          · rw [hB, e]; simp
          · rw [hB, e, hl, ha]; simp
        · have ha : alphI c.toNat = false := by simpa using ha
          simp only [ha, h0, RR, seval]
          exact hK _ _ ⟨_, rfl, rfl, fun e => by rw [hB, ha]; simp, fun e => by cases e⟩
      · have hl : decide (s.length ≤ 20) = false := decide_eq_false (by have := of_decide_eq_true h; omega)
        exact hK _ _ ⟨_, rfl, rfl, fun e => by rw [hB, hl]; rfl, fun e => by cases e⟩
  · rintro fr H ⟨t, h22, h0, ht, hf⟩
    refine awp_if _ h22 (fun hc => ?_) (fun hc => ?_)
    · refine awp_seq_k fun K hK => ?_; refine awp_region rfl ?_; simp only [RR, seval]
      refine hK _ _ ?_; clear hK K
      refine awp_ret ?_; simp only [thenQ, blockQ, bodyQ, aresult, ares, argF, RR, seval]; refine Gives.pure ?_
      rw [ht hc]
    · have hall := hf hc
      refine awp_skip ?_; simp only [thenQ, blockQ]
      refine awp_cutK (fun fr H => s.all isN = true) (fun K hK => ?_) ?_
      · refine awp_seq_k fun K hK => ?_; refine awp_region rfl ?_; simp only [RR, seval]
        refine hK _ _ ?_; clear hK K
        refine awp_block ?_
        refine awp_loopK (fun n fr H => ∃ i : Nat, n = s.length - i ∧ i ≤ s.length ∧ fr 0 = .str s ∧ fr 3 = .int .i64 i ∧ s.all isN = (s.drop i).all isN) s.length ⟨0, rfl, by omega, h0, rfl, by simp⟩ ?_
        rintro n fr H ⟨i, rfl, hi, h0, h3, hsall⟩ K2 hK2
        refine awp_seq ?_
        refine awp_seq_k fun K hK => ?_; refine awp_region rfl ?_; simp only [RR, seval]
        simp only [h0, h3, RR, seval]
        refine hK _ _ ?_; clear hK K
        refine awp_if _ rfl (fun hc => ?_) (fun hc => ?_)
        · have hl : i < s.length := by have := of_decide_eq_true hc; omega
          have hg : s[i]? = some s[i] := List.getElem?_eq_getElem hl
          rw [List.drop_eq_getElem_cons hl] at hsall
          simp only [List.all_cons] at hsall
          generalize s[i] = e at hg hsall
          refine awp_skip ?_; simp only [thenQ, blockQ]
          refine awp_seq ?_
          refine awp_block ?_
          refine awp_cutK (fun fr H => fr 46 = .bool (!isN e) ∧ fr 0 = .str s ∧ fr 3 = .int .i64 i) (fun K hK => ?_) ?_
          · refine awp_region rfl ?_; simp only [RR, seval]
            simp only [h0, h3, hg, RR, seval]
            refine awpC_pure' (ralpha_con _) ?_
            simp only [RR, seval]
            refine awpG_splitN (fun ha => ?_) (fun ha => ?_) <;> simp only [ha, h0, h3, hg, RR, seval]
            · refine awpC_pure' (rdigit_con _) ?_
              simp only [RR, seval]
              refine awpG_splitN (fun hd => ?_) (fun hd => ?_) <;> simp only [hd, h0, h3, hg, RR, seval]
              · repeat' ((first | refine awpG_splitN (fun h => ?_) (fun h => ?_) | refine awpG_split (fun h => ?_) (fun h => ?_)) <;> simp only [h, h0, h3, hg, RR, seval])
                all_goals exact hK _ _ ⟨by simp [upd, isN, inI, ha, hd], h0, h3⟩
              · exact hK _ _ ⟨by simp [upd, isN, inI, ha, hd], h0, h3⟩
            · exact hK _ _ ⟨by simp [upd, isN, inI, ha], h0, h3⟩
          · rintro fr H ⟨h46, h0, h3⟩
            refine awp_if _ h46 (fun hc => ?_) (fun hc => ?_)
            · have he : isN e = false := by simpa using hc
              refine awp_seq_k fun K hK => ?_; refine awp_region rfl ?_; simp only [RR, seval]
              refine hK _ _ ?_; clear hK K
              refine awp_ret ?_; simp only [thenQ, blockQ, bodyQ, aresult, ares, argF, RR, seval]; refine Gives.pure ?_
              rw [hall, hsall, he]; rfl
            · have he : isN e = true := by simpa using hc
              rw [he, Bool.true_and] at hsall
              refine awp_skip ?_; simp only [thenQ, blockQ]
              refine awp_region rfl ?_; simp only [RR, seval]
              simp only [h3, RR, seval]
              rw [IntWalk.i64_in _ (by omega)]
              exact hK2 (s.length - (i + 1)) _ _ (by omega) ⟨i + 1, rfl, by omega, h0, rfl, hsall⟩
        · refine awp_exit ?_; simp only [thenQ, blockQ, reduceIte, Nat.reduceEqDiff]
          have : i = s.length := by have := of_decide_eq_false hc; omega
          subst this
          rw [List.drop_length] at hsall
          exact hK _ _ hsall
      · intro fr H h
        refine awp_seq_k fun K hK => ?_; refine awp_region rfl ?_; simp only [RR, seval]
        refine hK _ _ ?_; clear hK K
        refine awp_ret ?_; simp only [thenQ, blockQ, bodyQ, aresult, ares, argF, RR, seval]; refine Gives.pure ?_
        rw [hall, h]
end Go.Proofs.YtgcncdjnipfolaaDoor

namespace Go.Al
def shortB (l : List Str) : Bool := l.all (fun s => decide (s.length ≤ 60)) && decide (l.length ≤ 200)
def leftE : List Ex → Int → Int → Int
  | [], left, _ => left
  | .mk _ _ _ s kids :: l, left, deep => if left < 0 then left else if deep ≤ 0 ∨ 60 < s.length then -1 else leftE l (leftE kids (left - 1) (deep - 1)) deep
def leftS : List Sm → Int → Int → Int
  | [], left, _ => left
  | .mk _ s es t u :: l, left, deep => if left < 0 then left else if deep ≤ 0 ∨ 60 < s.length then -1 else leftS l (leftS u (leftS t (leftE es (left - 1) (deep - 1)) (deep - 1)) (deep - 1)) deep
theorem leftE_cons (e : Ex) (l : List Ex) (left deep : Int) : leftE (e :: l) left deep = if left < 0 then left else if deep ≤ 0 ∨ 60 < e.name.length then -1 else leftE l (leftE e.kids (left - 1) (deep - 1)) deep := by
  cases e; rw [leftE]; rfl
theorem leftS_cons (e : Sm) (l : List Sm) (left deep : Int) : leftS (e :: l) left deep = if left < 0 then left else if deep ≤ 0 ∨ 60 < e.name.length then -1 else leftS l (leftS e.els (leftS e.thn (leftE e.es (left - 1) (deep - 1)) (deep - 1)) (deep - 1)) deep := by
  cases e; rw [leftS]; rfl
theorem leftE_neg (l : List Ex) (left deep : Int) (h : left < 0) : leftE l left deep = left := by
  cases l with
  | nil => rw [leftE]
  | cons e l => rw [leftE_cons, if_pos h]
theorem leftS_neg (l : List Sm) (left deep : Int) (h : left < 0) : leftS l left deep = left := by
  cases l with
  | nil => rw [leftS]
  | cons e l => rw [leftS_cons, if_pos h]
theorem leftE_bd (n : Nat) : ∀ (l : List Ex) (left deep : Int), szE l ≤ n → 0 ≤ left → -1 ≤ leftE l left deep ∧ leftE l left deep ≤ left := by
  induction n with
  | zero =>
    intro l left deep hn h
    cases l with
    | nil => rw [leftE]; omega
    | cons e l => have := e.sz_eq; simp only [szE] at hn; omega
  | succ n ih =>
    intro l
    induction l with
    | nil => intro left deep _ h; rw [leftE]; omega
    | cons e l ihl =>
      intro left deep hn h
      have hs := e.sz_eq
      simp only [szE] at hn
      rw [leftE_cons, if_neg (by omega)]
      split
      · omega
      · by_cases h0 : left = 0
        · rw [h0, leftE_neg e.kids _ _ (by omega), leftE_neg l _ _ (by omega)]; omega
        · have h1 := ih e.kids (left - 1) (deep - 1) (by omega) (by omega)
          by_cases h2 : leftE e.kids (left - 1) (deep - 1) < 0
          · rw [leftE_neg l _ _ h2]; omega
          · have := ihl (leftE e.kids (left - 1) (deep - 1)) deep (by omega) (by omega); omega
theorem leftE_bd' (l : List Ex) (left deep : Int) (h : -1 ≤ left) : -1 ≤ leftE l left deep ∧ leftE l left deep ≤ left := by
  by_cases h0 : left < 0
  · rw [leftE_neg _ _ _ h0]; omega
  · exact leftE_bd (szE l) l left deep (Nat.le_refl _) (by omega)
theorem leftS_bd (n : Nat) : ∀ (l : List Sm) (left deep : Int), szS l ≤ n → 0 ≤ left → -1 ≤ leftS l left deep ∧ leftS l left deep ≤ left := by
  induction n with
  | zero =>
    intro l left deep hn h
    cases l with
    | nil => rw [leftS]; omega
    | cons e l => have := e.sz_eq; simp only [szS] at hn; omega
  | succ n ih =>
    have ih' : ∀ (l : List Sm) (left deep : Int), szS l ≤ n → -1 ≤ left → -1 ≤ leftS l left deep ∧ leftS l left deep ≤ left := fun l left deep hl h => by
      by_cases h0 : left < 0
      · rw [leftS_neg _ _ _ h0]; omega
      · exact ih l left deep hl (by omega)
    intro l
    induction l with
    | nil => intro left deep _ h; rw [leftS]; omega
    | cons e l ihl =>
      intro left deep hn h
      have hs := e.sz_eq
      simp only [szS] at hn
      rw [leftS_cons, if_neg (by omega)]
      split
      · omega
      · have h1 := leftE_bd' e.es (left - 1) (deep - 1) (by omega)
        have h2 := ih' e.thn _ (deep - 1) (by omega) h1.1
        have h3 := ih' e.els _ (deep - 1) (by omega) h2.1
        generalize leftS e.els (leftS e.thn (leftE e.es (left - 1) (deep - 1)) (deep - 1)) (deep - 1) = z at *
        by_cases hz : z < 0
        · rw [leftS_neg l _ _ hz]; omega
        · have := ihl z deep (by omega) (by omega); omega
theorem leftS_bd' (l : List Sm) (left deep : Int) (h : -1 ≤ left) : -1 ≤ leftS l left deep ∧ leftS l left deep ≤ left := by
  by_cases h0 : left < 0
  · rw [leftS_neg _ _ _ h0]; omega
  · exact leftS_bd (szS l) l left deep (Nat.le_refl _) (by omega)
end Go.Al
namespace Go.Proofs.YtgcncdjnipfolaaDoor
open Go.Al
theorem short_con (l : List Str) (hl : fitL l) : PCon env 25 [.isl 1 (l.map strRow)] (.bool (shortB l)) := by
  have hl : l.length ≤ 9223372036854775807 := hl
  refine con_of 19 [.tmp 2] Tryd.func25 rfl rfl rfl rfl ?_
  refine awp_seq_k fun K hK => ?_; refine awp_region rfl ?_; simp only [RR, seval]
  refine hK _ _ ?_; clear hK K
  refine awp_cutK (fun fr H => fr 0 = .isl 1 (l.map strRow) ∧ l.all (fun s => decide (s.length ≤ 60)) = true) (fun K hK => ?_) ?_
  · refine awp_seq_k fun K hK => ?_; refine awp_region rfl ?_; simp only [RR, seval]
    refine hK _ _ ?_; clear hK K
    refine awp_block ?_
    refine awp_loopK (fun mm fr H => ∃ k : Nat, mm = l.length - k ∧ k ≤ l.length ∧ fr 3 = .int .i64 k ∧ fr 0 = .isl 1 (l.map strRow) ∧ l.all (fun s => decide (s.length ≤ 60)) = (l.drop k).all (fun s => decide (s.length ≤ 60))) (l.length) ⟨0, rfl, Nat.zero_le _, rfl, rfl, by rw [List.drop_zero]⟩ ?_
    rintro mm fr H ⟨k, rfl, hkk, hik, h0, hall⟩ K2 hK2
    refine awp_seq ?_
    refine awp_seq_k fun K hK => ?_; refine awp_region rfl ?_; simp only [RR, seval]
    simp only [hik, h0,List.length_map, RR, seval]
    refine hK _ _ ?_; clear hK K
    refine awp_if _ rfl (fun hc => ?_) (fun hc => ?_)
    · have hltk : k < l.length := by have := of_decide_eq_true hc; omega
      clear hc
      refine awp_skip ?_; simp only [thenQ, blockQ]
      refine awp_seq ?_
      refine awp_block ?_
      have hg := getN (List.getElem?_eq_getElem hltk)
      rw [List.drop_eq_getElem_cons hltk, List.all_cons] at hall
      generalize l[k] = s at hg hall
      refine awp_seq_k fun K hK => ?_; refine awp_region rfl ?_; simp only [RR, seval]
      simp only [h0, hik, hg, RR, seval]
      refine hK _ _ ?_; clear hK K
      refine awp_if _ rfl (fun hc => ?_) (fun hc => ?_)
      · refine awp_seq_k fun K hK => ?_; refine awp_region rfl ?_; simp only [RR, seval]
        refine hK _ _ ?_; clear hK K
        refine awp_ret ?_; simp only [thenQ, blockQ, bodyQ, aresult, ares, argF, RR, seval]; refine Gives.pure ?_
        have : decide (s.length ≤ 60) = false := decide_eq_false (by have := of_decide_eq_true hc; omega)
        rw [shortB, hall, this]; rfl
      · refine awp_skip ?_; simp only [thenQ, blockQ]
        have : decide (s.length ≤ 60) = true := decide_eq_true (by have := of_decide_eq_false hc; omega)
        rw [this, Bool.true_and] at hall
        refine awp_region rfl ?_; simp only [RR, seval]
        simp only [hik, thenQ, blockQ, RR, seval]
        rw [IntWalk.i64_in _ (by omega)]
        refine hK2 (l.length - (k + 1)) _ _ (by omega) ⟨k + 1, rfl, by omega, rfl, h0, hall⟩
    · refine awp_exit ?_; simp only [thenQ, blockQ, reduceIte, Nat.reduceEqDiff]
      have hknk : k = l.length := by have := of_decide_eq_false hc; omega
      clear hc
      subst hknk
      rw [List.drop_length] at hall
      exact hK _ _ ⟨h0, hall⟩
  · rintro fr H ⟨h0, hall⟩
    refine awp_seq_k fun K hK => ?_; refine awp_region rfl ?_; simp only [RR, seval]
    simp only [h0, List.length_map, RR, seval]
    refine hK _ _ ?_; clear hK K
    refine awp_ret ?_; simp only [thenQ, blockQ, bodyQ, aresult, ares, argF, RR, seval]; refine Gives.pure ?_
    rw [shortB, hall, Bool.true_and]
    congr 1
    rw [Bool.eq_iff_iff]; simp only [decide_eq_true_eq]; omega
theorem LeftExprs_con (n : Nat) : ∀ (l : List Ex) (left deep : Int), szE l ≤ n → okE l → -1000000 ≤ left → left ≤ 1000000 → -1000000 ≤ deep → deep ≤ 1000000 →
    PCon env 20 [.isl 5 (l.map Ex.row), .int .i64 left, .int .i64 deep] (.int .i64 (leftE l left deep)) := by
  induction n with
  | zero =>
    intro l left deep hn hok h1 h2 h3 h4
    have : l = [] := by cases l with | nil => rfl | cons e l => have := e.sz_eq; simp only [szE] at hn; omega
    subst this
    refine con_of 41 [.tmp 6] Tryd.func20 rfl rfl rfl rfl ?_
    refine awp_seq_k fun K hK => ?_; refine awp_region rfl ?_; simp only [RR, seval]
    refine hK _ _ ?_; clear hK K
    refine awp_cutK (fun fr H => fr 1 = .int .i64 left) (fun K hK => ?_) ?_
    · refine awp_seq_k fun K hK => ?_; refine awp_region rfl ?_; simp only [RR, seval]
      refine hK _ _ ?_; clear hK K
      refine awp_block ?_
      refine awp_loopK (fun m fr H => fr 0 = .isl 5 [] ∧ fr 1 = .int .i64 left ∧ fr 7 = .int .i64 0) 0 ⟨rfl, rfl, rfl⟩ ?_
      rintro m fr H ⟨h0, h1, h7⟩ K2 hK2
      refine awp_seq ?_
      refine awp_seq_k fun K hK => ?_; refine awp_region rfl ?_; simp only [RR, seval]
      simp only [h0, h1, h7, RR, seval]
      refine hK _ _ ?_; clear hK K
      refine awp_if false rfl (fun hc => by cases hc) (fun _ => ?_)
      refine awp_exit ?_; simp only [thenQ, blockQ, reduceIte, Nat.reduceEqDiff]
      exact hK _ _ h1
    · rintro fr H h1
      refine awp_seq_k fun K hK => ?_; refine awp_region rfl ?_; simp only [RR, seval]
      simp only [h1, RR, seval]
      refine hK _ _ ?_; clear hK K
      refine awp_ret ?_; simp only [thenQ, blockQ, bodyQ, aresult, ares, argF, RR, seval]; refine Gives.pure ?_
      rw [leftE]
  | succ n ih =>
    intro l left deep hn hok h1 h2 h3 h4
    have hfit : l.length ≤ 9223372036854775807 := hok.fit
    refine con_of 41 [.tmp 6] Tryd.func20 rfl rfl rfl rfl ?_
    refine awp_seq_k fun K hK => ?_; refine awp_region rfl ?_; simp only [RR, seval]
    refine hK _ _ ?_; clear hK K
    refine awp_cutK (fun fr H => fr 1 = .int .i64 (leftE l left deep)) (fun K hK => ?_) ?_
    · refine awp_seq_k fun K hK => ?_; refine awp_region rfl ?_; simp only [RR, seval]
      refine hK _ _ ?_; clear hK K
      refine awp_block ?_
      refine awp_loopK (fun m fr H => ∃ (k : Nat) (x : Int), m = l.length - k ∧ k ≤ l.length ∧ fr 0 = .isl 5 (l.map Ex.row) ∧ fr 1 = .int .i64 x ∧ fr 2 = .int .i64 deep ∧ fr 7 = .int .i64 k ∧ leftE l left deep = leftE (l.drop k) x deep ∧ -1000000 ≤ x ∧ x ≤ 1000000) l.length ⟨0, left, rfl, by omega, rfl, rfl, rfl, rfl, by simp, h1, h2⟩ ?_
      rintro m fr H ⟨k, x, rfl, hk, f0, f1, f2, f7, heq, hx1, hx2⟩ K2 hK2
      refine awp_seq ?_
      by_cases hkl : k < l.length
      · have e1 : decide ((k : Int) < l.length) = true := decide_eq_true (by omega)
        refine awp_seq_k fun K hK => ?_; refine awp_region rfl ?_; simp only [RR, seval]
        simp only [f0, f1, f7, List.length_map, e1, RR, seval]
        refine hK _ _ ?_; clear hK K
        refine awp_if _ rfl (fun hc => ?_) (fun hc => ?_)
        · have hx0 : 0 ≤ x := by simpa using hc
          have hmem := List.getElem_mem hkl
          have hgl := getE (List.getElem?_eq_getElem hkl)
          rw [List.drop_eq_getElem_cons hkl, leftE_cons, if_neg (by omega)] at heq
          have hsz := szE_mem hmem
          have hoke := hok.all _ hmem
          generalize l[k] = e at hgl heq hsz hoke
          have hse := e.sz_eq
          have w1 : IntKind.wrap .i64 (x - 1) = x - 1 := IntWalk.i64_in _ (by omega)
          have w2 : IntKind.wrap .i64 (deep - 1) = deep - 1 := IntWalk.i64_in _ (by omega)
          refine awp_skip ?_; simp only [thenQ, blockQ]
          refine awp_seq ?_
          refine awp_block ?_
          refine awp_seq_k fun K hK => ?_; refine awp_region rfl ?_; simp only [RR, seval]
          simp only [f1, w1, RR, seval]
          refine hK _ _ ?_; clear hK K
          refine awp_seq ?_
          refine awp_cutK (fun fr H => ∃ t, fr 30 = .bool t ∧ (t = decide (deep ≤ 0 ∨ 60 < e.name.length)) ∧ fr 0 = .isl 5 (l.map Ex.row) ∧ fr 1 = .int .i64 (x - 1) ∧ fr 2 = .int .i64 deep ∧ fr 7 = .int .i64 k) (fun K hK => ?_) ?_
          · refine awp_region rfl ?_; simp only [RR, seval]
            simp only [f0, f2, f7, hgl, RR, seval]
            repeat' ((first | refine awpG_splitN (fun h => ?_) (fun h => ?_) | refine awpG_split (fun h => ?_) (fun h => ?_)) <;> simp only [h, f0, f2, f7, hgl, RR, seval])
            all_goals
              refine hK _ _ ⟨_, rfl, ?_, f0, rfl, f2, f7⟩
              clear hK hK2
              simp only [decide_eq_true_eq, decide_eq_false_iff_not] at *
              symm
              first
                | (rw [decide_eq_true_eq]; omega)
                | (rw [Bool.eq_iff_iff]; simp only [decide_eq_true_eq]; omega)
          · rintro fr H ⟨t, f30, ht, f0, f1, f2, f7⟩
            refine awp_if _ f30 (fun hc => ?_) (fun hc => ?_)
            · refine awp_seq_k fun K hK => ?_; refine awp_region rfl ?_; simp only [RR, seval]
              refine hK _ _ ?_; clear hK K
              refine awp_ret ?_; simp only [thenQ, blockQ, bodyQ, aresult, ares, argF, RR, seval]; refine Gives.pure ?_
              rw [heq, if_pos (by rw [hc] at ht; simpa using ht.symm)]
            · have hno : ¬ (deep ≤ 0 ∨ 60 < e.name.length) := by rw [hc] at ht; simpa using ht.symm
              rw [if_neg hno] at heq
              refine awp_skip ?_; simp only [thenQ, blockQ]
              have hbd := leftE_bd' e.kids (x - 1) (deep - 1) (by omega)
              refine awp_region rfl ?_
              simp only [f0, f1, f2, f7, hgl, w2, RR, seval]
              refine awpC_pure' (ih e.kids (x - 1) (deep - 1) (by omega) hoke.kids (by omega) (by omega) (by omega) (by omega)) ?_; simp only [RR, seval]
              try simp only [thenQ, blockQ]
              refine awp_region rfl ?_
              simp only [f7, thenQ, blockQ, RR, seval]
              rw [IntWalk.i64_in _ (by omega)]
              exact hK2 (l.length - (k + 1)) _ _ (by omega) ⟨k + 1, _, rfl, by omega, f0, rfl, f2, rfl, heq, by omega, by omega⟩
        · have hx0 : x < 0 := by simpa using hc
          rw [leftE_neg _ _ _ hx0] at heq
          refine awp_exit ?_; simp only [thenQ, blockQ, reduceIte, Nat.reduceEqDiff]
          exact hK _ _ (by rw [heq]; exact f1)
      · have hkn : k = l.length := by omega
        subst hkn
        rw [List.drop_length, leftE] at heq
        have e1 : decide ((l.length : Int) < l.length) = false := decide_eq_false (by omega)
        refine awp_seq_k fun K hK => ?_; refine awp_region rfl ?_; simp only [RR, seval]
        simp only [f0, f1, f7, List.length_map, e1, RR, seval]
        refine hK _ _ ?_; clear hK K
        refine awp_if false rfl (fun hc => by cases hc) (fun _ => ?_)
        refine awp_exit ?_; simp only [thenQ, blockQ, reduceIte, Nat.reduceEqDiff]
        exact hK _ _ (by rw [heq]; exact f1)
    · rintro fr H h1
      refine awp_seq_k fun K hK => ?_; refine awp_region rfl ?_; simp only [RR, seval]
      simp only [h1, RR, seval]
      refine hK _ _ ?_; clear hK K
      refine awp_ret ?_; simp only [thenQ, blockQ, bodyQ, aresult, ares, argF, RR, seval]; refine Gives.pure ?_
      rfl
end Go.Proofs.YtgcncdjnipfolaaDoor

namespace Go.Al
def leftF : List Fu → Int → Int
  | [], left => left
  | f :: l, left => leftF l (leftS f.body (left - f.params.length - f.locs.length) 60)
def fewF (f : Fu) : Bool := shortB f.params && shortB f.locs && decide (f.name.length ≤ 60)
def fewB (p : Pg) (most : Int) : Bool :=
  shortB p.vars && decide (p.arrs.length ≤ 200) && decide (p.funs.length ≤ 70) && p.arrs.all (fun a => decide (a.name.length ≤ 60)) && p.funs.all fewF &&
    decide (0 ≤ leftF p.funs (most - p.vars.length - p.arrs.length - p.funs.length))
theorem shortB_len {l : List Str} (h : shortB l = true) : l.length ≤ 200 ∧ ∀ s ∈ l, s.length ≤ 60 := by
  simp only [shortB, Bool.and_eq_true, List.all_eq_true, decide_eq_true_eq] at h
  exact ⟨h.2, h.1⟩
end Go.Al
namespace Go.Proofs.YtgcncdjnipfolaaDoor
open Go.Al
theorem LeftStmts_con (n : Nat) : ∀ (l : List Sm) (left deep : Int), szS l = n → okS l → -1000000 ≤ left → left ≤ 1000000 → -1000000 ≤ deep → deep ≤ 1000000 →
    PCon env 26 [.isl 5 (l.map Sm.row), .int .i64 left, .int .i64 deep] (.int .i64 (leftS l left deep)) := by
  induction n using Nat.strongRecOn with
  | _ n ih =>
    intro l left deep hn hok h1 h2 h3 h4
    have hfit : l.length ≤ 9223372036854775807 := hok.fit
    refine con_of 59 [.tmp 6] Tryd.func26 rfl rfl rfl rfl ?_
    refine awp_seq_k fun K hK => ?_; refine awp_region rfl ?_; simp only [RR, seval]
    refine hK _ _ ?_; clear hK K
    refine awp_cutK (fun fr H => fr 1 = .int .i64 (leftS l left deep)) (fun K hK => ?_) ?_
    · refine awp_seq_k fun K hK => ?_; refine awp_region rfl ?_; simp only [RR, seval]
      refine hK _ _ ?_; clear hK K
      refine awp_block ?_
      refine awp_loopK (fun m fr H => ∃ (k : Nat) (x : Int), m = l.length - k ∧ k ≤ l.length ∧ fr 0 = .isl 5 (l.map Sm.row) ∧ fr 1 = .int .i64 x ∧ fr 2 = .int .i64 deep ∧ fr 7 = .int .i64 k ∧ leftS l left deep = leftS (l.drop k) x deep ∧ -1000000 ≤ x ∧ x ≤ 1000000) l.length ⟨0, left, rfl, by omega, rfl, rfl, rfl, rfl, by simp, h1, h2⟩ ?_
      rintro m fr H ⟨k, x, rfl, hk, f0, f1, f2, f7, heq, hx1, hx2⟩ K2 hK2
      refine awp_seq ?_
      by_cases hkl : k < l.length
      · have e1 : decide ((k : Int) < l.length) = true := decide_eq_true (by omega)
        refine awp_seq_k fun K hK => ?_; refine awp_region rfl ?_; simp only [RR, seval]
        simp only [f0, f1, f7, List.length_map, e1, RR, seval]
        refine hK _ _ ?_; clear hK K
        refine awp_if _ rfl (fun hc => ?_) (fun hc => ?_)
        · have hx0 : 0 ≤ x := by simpa using hc
          have hmem := List.getElem_mem hkl
          have hgl := getS (List.getElem?_eq_getElem hkl)
          rw [List.drop_eq_getElem_cons hkl, leftS_cons, if_neg (by omega)] at heq
          have hsz := szS_mem hmem
          have hoke := hok.all _ hmem
          generalize l[k] = e at hgl heq hsz hoke
          have hse := e.sz_eq
          have w1 : IntKind.wrap .i64 (x - 1) = x - 1 := IntWalk.i64_in _ (by omega)
          have w2 : IntKind.wrap .i64 (deep - 1) = deep - 1 := IntWalk.i64_in _ (by omega)
          refine awp_skip ?_; simp only [thenQ, blockQ]
          refine awp_seq ?_
          refine awp_block ?_
          refine awp_seq_k fun K hK => ?_; refine awp_region rfl ?_; simp only [RR, seval]
          simp only [f1, w1, RR, seval]
          refine hK _ _ ?_; clear hK K
          refine awp_seq ?_
          refine awp_cutK (fun fr H => ∃ t, fr 30 = .bool t ∧ (t = decide (deep ≤ 0 ∨ 60 < e.name.length)) ∧ fr 0 = .isl 5 (l.map Sm.row) ∧ fr 1 = .int .i64 (x - 1) ∧ fr 2 = .int .i64 deep ∧ fr 7 = .int .i64 k) (fun K hK => ?_) ?_
          · refine awp_region rfl ?_; simp only [RR, seval]
            simp only [f0, f2, f7, hgl, RR, seval]
            repeat' ((first | refine awpG_splitN (fun h => ?_) (fun h => ?_) | refine awpG_split (fun h => ?_) (fun h => ?_)) <;> simp only [h, f0, f2, f7, hgl, RR, seval])
            all_goals
              refine hK _ _ ⟨_, rfl, ?_, f0, rfl, f2, f7⟩
              clear hK hK2
              simp only [decide_eq_true_eq, decide_eq_false_iff_not] at *
              symm
              first
                | (rw [decide_eq_true_eq]; omega)
                | (rw [Bool.eq_iff_iff]; simp only [decide_eq_true_eq]; omega)
          · rintro fr H ⟨t, f30, ht, f0, f1, f2, f7⟩
            refine awp_if _ f30 (fun hc => ?_) (fun hc => ?_)
            · refine awp_seq_k fun K hK => ?_; refine awp_region rfl ?_; simp only [RR, seval]
              refine hK _ _ ?_; clear hK K
              refine awp_ret ?_; simp only [thenQ, blockQ, bodyQ, aresult, ares, argF, RR, seval]; refine Gives.pure ?_
              rw [heq, if_pos (by rw [hc] at ht; simpa using ht.symm)]
            · have hno : ¬ (deep ≤ 0 ∨ 60 < e.name.length) := by rw [hc] at ht; simpa using ht.symm
              rw [if_neg hno] at heq
              refine awp_skip ?_; simp only [thenQ, blockQ]
              have hbd := leftE_bd' e.es (x - 1) (deep - 1) (by omega)
              have hbd2 := leftS_bd' e.thn _ (deep - 1) hbd.1
              have hbd3 := leftS_bd' e.els _ (deep - 1) hbd2.1
              refine awp_seq_k fun K hK => ?_; refine awp_region rfl ?_; simp only [RR, seval]
              simp only [f0, f1, f2, f7, hgl, w2, RR, seval]
              refine awpC_pure' (LeftExprs_con _ e.es (x - 1) (deep - 1) (Nat.le_refl _) hoke.es (by omega) (by omega) (by omega) (by omega)) ?_; simp only [RR, seval]
              refine hK _ _ ?_; clear hK K
              refine awp_seq_k fun K hK => ?_; refine awp_region rfl ?_; simp only [RR, seval]
              simp only [f0, f2, f7, hgl, w2, RR, seval]
              refine awpC_pure' (ih _ (by omega) e.thn (leftE e.es (x - 1) (deep - 1)) (deep - 1) rfl hoke.thn (by omega) (by omega) (by omega) (by omega)) ?_; simp only [RR, seval]
              refine hK _ _ ?_; clear hK K
              refine awp_region rfl ?_
              simp only [f0, f2, f7, hgl, w2, RR, seval]
              refine awpC_pure' (ih _ (by omega) e.els (leftS e.thn (leftE e.es (x - 1) (deep - 1)) (deep - 1)) (deep - 1) rfl hoke.els (by omega) (by omega) (by omega) (by omega)) ?_; simp only [RR, seval]
              try simp only [thenQ, blockQ]
              refine awp_region rfl ?_
              simp only [f7, thenQ, blockQ, RR, seval]
              rw [IntWalk.i64_in _ (by omega)]
              exact hK2 (l.length - (k + 1)) _ _ (by omega) ⟨k + 1, _, rfl, by omega, f0, rfl, f2, rfl, heq, by omega, by omega⟩
        · have hx0 : x < 0 := by simpa using hc
          rw [leftS_neg _ _ _ hx0] at heq
          refine awp_exit ?_; simp only [thenQ, blockQ, reduceIte, Nat.reduceEqDiff]
          exact hK _ _ (by rw [heq]; exact f1)
      · have hkn : k = l.length := by omega
        subst hkn
        rw [List.drop_length, leftS] at heq
        have e1 : decide ((l.length : Int) < l.length) = false := decide_eq_false (by omega)
        refine awp_seq_k fun K hK => ?_; refine awp_region rfl ?_; simp only [RR, seval]
        simp only [f0, f1, f7, List.length_map, e1, RR, seval]
        refine hK _ _ ?_; clear hK K
        refine awp_if false rfl (fun hc => by cases hc) (fun _ => ?_)
        refine awp_exit ?_; simp only [thenQ, blockQ, reduceIte, Nat.reduceEqDiff]
        exact hK _ _ (by rw [heq]; exact f1)
    · rintro fr H h1
      refine awp_seq_k fun K hK => ?_; refine awp_region rfl ?_; simp only [RR, seval]
      simp only [h1, RR, seval]
      refine hK _ _ ?_; clear hK K
      refine awp_ret ?_; simp only [thenQ, blockQ, bodyQ, aresult, ares, argF, RR, seval]; refine Gives.pure ?_
      rfl
theorem leftS_hi (l : List Sm) (left deep : Int) : leftS l left deep ≤ (if left < 0 then left else left) ∧ (0 ≤ left → -1 ≤ leftS l left deep) ∧ (left < 0 → leftS l left deep = left) := by
  by_cases h : left < 0
  · rw [leftS_neg _ _ _ h]; simp; omega
  · have := leftS_bd' l left deep (by omega)
    simp; omega
theorem Few_con (p : Pg) (hp : p.ok) (most : Int) (hm : 0 ≤ most) (hm2 : most ≤ 100000) : PCon env 11 [p.av, .int .i64 most] (.bool (fewB p most)) := by
  have fv : p.vars.length ≤ 9223372036854775807 := hp.vars.fit
  have fa : p.arrs.length ≤ 9223372036854775807 := hp.afit
  have ff : p.funs.length ≤ 9223372036854775807 := hp.ffit
  obtain ⟨vs, aa, fs⟩ := p
  simp only at fv fa ff
  simp only [Pg.av, Pg.row]
  refine con_of 95 [.tmp 4] Tryd.func11 rfl rfl rfl rfl ?_
  refine awp_cutK (fun fr H => ∃ b, fr 1 = .int .i64 most ∧ fr 2 = .ptr 3 b 0 0 ∧ H b = some (.rows 3 [[.isl 1 (vs.map strRow), .isl 2 (aa.map Ar.row), .isl 5 (fs.map Fu.row)]])) (fun K hK => ?_) ?_
  · refine awp_region rfl ?_; simp only [RR, seval]
    refine awpN_intro fun b hb => ?_; simp only [RR, seval]
    exact hK _ _ ⟨b, rfl, rfl, upd_same _ _ _⟩
  rintro fr H ⟨b, h1, h2, hb⟩
  have hshort := short_con vs hp.vars.fit
  refine awp_seq ?_
  refine awp_cutK (fun fr H => ∃ t, fr 24 = .bool t ∧ (t = !(shortB vs && decide (aa.length ≤ 200) && decide (fs.length ≤ 70))) ∧ fr 1 = .int .i64 most ∧ fr 2 = .ptr 3 b 0 0 ∧ H b = some (.rows 3 [[.isl 1 (vs.map strRow), .isl 2 (aa.map Ar.row), .isl 5 (fs.map Fu.row)]])) (fun K hK => ?_) ?_
  · refine awp_region rfl ?_; simp only [RR, seval]
    simp only [h2, hb, RR, seval]
    refine awpC_pure' hshort ?_; simp only [RR, seval]
    cases hs : shortB vs with
    | false =>
      simp only [h2, hb, RR, seval]
      exact hK _ _ ⟨_, rfl, by rw [hs]; rfl, h1, h2, hb⟩
    | true =>
      simp only [h2, hb, List.length_map, RR, seval]
      refine awpG_splitN (fun h => ?_) (fun h => ?_) <;> simp only [h, h2, hb, List.length_map, RR, seval]
      · refine hK _ _ ⟨_, rfl, ?_, h1, h2, hb⟩
        have : decide (aa.length ≤ 200) = true := decide_eq_true (by have := of_decide_eq_false h; omega)
        rw [hs, this, Bool.true_and, Bool.true_and, Bool.eq_iff_iff]
        simp only [decide_eq_true_eq, Bool.not_eq_true', decide_eq_false_iff_not]; omega
      · refine hK _ _ ⟨_, rfl, ?_, h1, h2, hb⟩
        have : decide (aa.length ≤ 200) = false := decide_eq_false (by have := of_decide_eq_true h; omega)
        rw [hs, this]; rfl
  rintro fr H ⟨t, h24, ht, h1, h2, hb⟩
  refine awp_if _ h24 (fun hc => ?_) (fun hc => ?_)
  · refine awp_seq_k fun K hK => ?_; refine awp_region rfl ?_; simp only [RR, seval]
    refine hK _ _ ?_; clear hK K
    refine awp_ret ?_; simp only [thenQ, blockQ, bodyQ, aresult, ares, argF, RR, seval]; refine Gives.pure ?_
    rw [hc] at ht
    have : (shortB vs && decide (aa.length ≤ 200) && decide (fs.length ≤ 70)) = false := by
      cases e : (shortB vs && decide (aa.length ≤ 200) && decide (fs.length ≤ 70)) with
      | false => rfl
      | true => rw [e] at ht; cases ht
    simp only [fewB, this, Bool.false_and]
  rw [hc] at ht
  have ht3 : (shortB vs && decide (aa.length ≤ 200) && decide (fs.length ≤ 70)) = true := by
    cases e : (shortB vs && decide (aa.length ≤ 200) && decide (fs.length ≤ 70)) with
    | true => rfl
    | false => rw [e] at ht; cases ht
  have hfew : fewB ⟨vs, aa, fs⟩ most = (aa.all (fun a => decide (a.name.length ≤ 60)) && fs.all fewF && decide (0 ≤ leftF fs (most - vs.length - aa.length - fs.length))) := by
    simp only [fewB, ht3, Bool.true_and]
  simp only [Bool.and_eq_true, decide_eq_true_eq] at ht3
  obtain ⟨⟨hsv, hal⟩, hfl⟩ := ht3
  have hvl := (shortB_len hsv).1
  rw [hfew]
  refine awp_skip ?_; simp only [thenQ, blockQ]
  refine awp_cutK (fun fr H => fr 5 = .int .i64 (most - vs.length - aa.length - fs.length) ∧ fr 2 = .ptr 3 b 0 0 ∧ H b = some (.rows 3 [[.isl 1 (vs.map strRow), .isl 2 (aa.map Ar.row), .isl 5 (fs.map Fu.row)]])) (fun K hK => ?_) ?_
  · have w1 : IntKind.wrap .i64 (most - vs.length) = most - vs.length := IntWalk.i64_in _ (by omega)
    have w2 : IntKind.wrap .i64 (most - vs.length - aa.length) = most - vs.length - aa.length := IntWalk.i64_in _ (by omega)
    have w3 : IntKind.wrap .i64 (most - vs.length - aa.length - fs.length) = most - vs.length - aa.length - fs.length := IntWalk.i64_in _ (by omega)
    refine awp_region rfl ?_; simp only [RR, seval]
    simp only [h1, h2, hb, List.length_map, w1, w2, w3, RR, seval]
    exact hK _ _ ⟨rfl, h2, hb⟩
  rintro fr H ⟨h5, h2, hb⟩
  refine awp_cutK (fun fr H => aa.all (fun a => decide (a.name.length ≤ 60)) = true ∧ fr 5 = .int .i64 (most - vs.length - aa.length - fs.length) ∧ fr 2 = .ptr 3 b 0 0 ∧ H b = some (.rows 3 [[.isl 1 (vs.map strRow), .isl 2 (aa.map Ar.row), .isl 5 (fs.map Fu.row)]])) (fun K hK => ?_) ?_
  · refine awp_seq_k fun K hK => ?_; refine awp_region rfl ?_; simp only [RR, seval]
    refine hK _ _ ?_; clear hK K
    refine awp_block ?_
    refine awp_loopK (fun mm fr H => ∃ k : Nat, mm = aa.length - k ∧ k ≤ aa.length ∧ fr 6 = .int .i64 k ∧ aa.all (fun a => decide (a.name.length ≤ 60)) = (aa.drop k).all (fun a => decide (a.name.length ≤ 60)) ∧ fr 5 = .int .i64 (most - vs.length - aa.length - fs.length) ∧ fr 2 = .ptr 3 b 0 0 ∧ H b = some (.rows 3 [[.isl 1 (vs.map strRow), .isl 2 (aa.map Ar.row), .isl 5 (fs.map Fu.row)]])) (aa.length) ⟨0, rfl, Nat.zero_le _, rfl, by rw [List.drop_zero], h5, h2, hb⟩ ?_
    rintro mm fr H ⟨k, rfl, hkk, hik, hall, h5, h2, hb⟩ K2 hK2
    refine awp_seq ?_
    refine awp_seq_k fun K hK => ?_; refine awp_region rfl ?_; simp only [RR, seval]
    simp only [hik, h2, hb,List.length_map, RR, seval]
    refine hK _ _ ?_; clear hK K
    refine awp_if _ rfl (fun hc => ?_) (fun hc => ?_)
    · have hltk : k < aa.length := by have := of_decide_eq_true hc; omega
      clear hc
      refine awp_skip ?_; simp only [thenQ, blockQ]
      refine awp_seq ?_
      refine awp_block ?_
      have hg := getA (List.getElem?_eq_getElem hltk)
      rw [List.drop_eq_getElem_cons hltk, List.all_cons] at hall
      generalize aa[k] = a at hg hall
      refine awp_seq_k fun K hK => ?_; refine awp_region rfl ?_; simp only [RR, seval]
      simp only [h2, hb, hik, hg, RR, seval]
      refine hK _ _ ?_; clear hK K
      refine awp_if _ rfl (fun hc => ?_) (fun hc => ?_)
      · refine awp_seq_k fun K hK => ?_; refine awp_region rfl ?_; simp only [RR, seval]
        refine hK _ _ ?_; clear hK K
        refine awp_ret ?_; simp only [thenQ, blockQ, bodyQ, aresult, ares, argF, RR, seval]; refine Gives.pure ?_
        have : decide (a.name.length ≤ 60) = false := decide_eq_false (by have := of_decide_eq_true hc; omega)
        rw [hall, this]; rfl
      · have : decide (a.name.length ≤ 60) = true := decide_eq_true (by have := of_decide_eq_false hc; omega)
        rw [this, Bool.true_and] at hall
        refine awp_skip ?_; simp only [thenQ, blockQ]
        refine awp_region rfl ?_; simp only [RR, seval]
        simp only [hik, thenQ, blockQ, RR, seval]
        rw [IntWalk.i64_in _ (by omega)]
        refine hK2 (aa.length - (k + 1)) _ _ (by omega) ⟨k + 1, rfl, by omega, rfl, hall, h5, h2, hb⟩
    · refine awp_exit ?_; simp only [thenQ, blockQ, reduceIte, Nat.reduceEqDiff]
      have hknk : k = aa.length := by have := of_decide_eq_false hc; omega
      clear hc
      subst hknk
      rw [List.drop_length] at hall
      exact hK _ _ ⟨hall, h5, h2, hb⟩
  rintro fr H ⟨hall, h5, h2, hb⟩
  rw [hall, Bool.true_and]
  generalize hleft : most - (vs.length : Int) - aa.length - fs.length = left0 at h5 ⊢
  have hl0 : -100000 ≤ left0 ∧ left0 ≤ 100000 := by omega
  refine awp_cutK (fun fr H => fs.all fewF = true ∧ fr 5 = .int .i64 (leftF fs left0)) (fun K hK => ?_) ?_
  · refine awp_seq_k fun K hK => ?_; refine awp_region rfl ?_; simp only [RR, seval]
    refine hK _ _ ?_; clear hK K
    refine awp_block ?_
    refine awp_loopK (fun mm fr H => ∃ k : Nat, mm = fs.length - k ∧ k ≤ fs.length ∧ fr 7 = .int .i64 k ∧ ∃ x : Int, fs.all fewF = (fs.drop k).all fewF ∧ leftF fs left0 = leftF (fs.drop k) x ∧ -100000 - 401 * (k : Int) ≤ x ∧ x ≤ 100000 ∧ fr 5 = .int .i64 x ∧ fr 2 = .ptr 3 b 0 0 ∧ H b = some (.rows 3 [[.isl 1 (vs.map strRow), .isl 2 (aa.map Ar.row), .isl 5 (fs.map Fu.row)]])) (fs.length) ⟨0, rfl, Nat.zero_le _, rfl, left0, by rw [List.drop_zero], by rw [List.drop_zero], by omega, by omega, h5, h2, hb⟩ ?_
    rintro mm fr H ⟨k, rfl, hkk, hik, x, hall2, hlf, hx1, hx2, h5, h2, hb⟩ K2 hK2
    refine awp_seq ?_
    refine awp_seq_k fun K hK => ?_; refine awp_region rfl ?_; simp only [RR, seval]
    simp only [hik, h2, hb,List.length_map, RR, seval]
    refine hK _ _ ?_; clear hK K
    refine awp_if _ rfl (fun hc => ?_) (fun hc => ?_)
    · have hltk : k < fs.length := by have := of_decide_eq_true hc; omega
      clear hc
      refine awp_skip ?_; simp only [thenQ, blockQ]
      refine awp_seq ?_
      refine awp_block ?_
      have hg := getF (List.getElem?_eq_getElem hltk)
      have hokf := hp.funs _ (List.getElem_mem hltk)
      rw [List.drop_eq_getElem_cons hltk, List.all_cons] at hall2
      rw [List.drop_eq_getElem_cons hltk, leftF] at hlf
      generalize fs[k] = f at hg hall2 hlf hokf
      refine awp_seq_k fun K hK => ?_; refine awp_region rfl ?_; simp only [RR, seval]
      simp only [h2, hb, hik, hg, RR, seval]
      refine awpN_intro fun b1 hb1 => ?_
      simp only [RR, seval]
      refine hK _ _ ?_; clear hK K
      have hne : b ≠ b1 := fun e => by rw [e, hb1] at hb; cases hb
      have hH1 : (upd (upd H b1 (some (.rows 5 [[.str [], .nsl, .nsl, .bool false, .nsl]]))) b1 (some (.rows 5 [[.str f.name, .isl 1 (f.params.map strRow), .isl 1 (f.locs.map strRow), .bool f.word, .isl 5 (f.body.map Sm.row)]]))) b1 = some (.rows 5 [[.str f.name, .isl 1 (f.params.map strRow), .isl 1 (f.locs.map strRow), .bool f.word, .isl 5 (f.body.map Sm.row)]]) := upd_same _ _ _
      have hHb : (upd (upd H b1 (some (.rows 5 [[.str [], .nsl, .nsl, .bool false, .nsl]]))) b1 (some (.rows 5 [[.str f.name, .isl 1 (f.params.map strRow), .isl 1 (f.locs.map strRow), .bool f.word, .isl 5 (f.body.map Sm.row)]]))) b = some (.rows 3 [[.isl 1 (vs.map strRow), .isl 2 (aa.map Ar.row), .isl 5 (fs.map Fu.row)]]) := by simp only [upd, if_neg hne]; exact hb
      generalize (upd (upd H b1 (some (.rows 5 [[.str [], .nsl, .nsl, .bool false, .nsl]]))) b1 (some (.rows 5 [[.str f.name, .isl 1 (f.params.map strRow), .isl 1 (f.locs.map strRow), .bool f.word, .isl 5 (f.body.map Sm.row)]]))) = H1 at hH1 hHb ⊢
      have c1 := short_con f.params hokf.params.fit
      have c2 := short_con f.locs hokf.locs.fit
      refine awp_seq ?_
      refine awp_cutK (fun fr H => ∃ t, fr 80 = .bool t ∧ (t = !fewF f) ∧ fr 8 = .ptr 5 b1 0 0 ∧ fr 7 = .int .i64 k ∧ fr 5 = .int .i64 x ∧ fr 2 = .ptr 3 b 0 0 ∧ H b = some (.rows 3 [[.isl 1 (vs.map strRow), .isl 2 (aa.map Ar.row), .isl 5 (fs.map Fu.row)]]) ∧ H b1 = some (.rows 5 [[.str f.name, .isl 1 (f.params.map strRow), .isl 1 (f.locs.map strRow), .bool f.word, .isl 5 (f.body.map Sm.row)]])) (fun K hK => ?_) ?_
      · refine awp_region rfl ?_; simp only [RR, seval]
        simp only [hH1, RR, seval]
        refine awpC_pure' c1 ?_; simp only [RR, seval]
        cases hs1 : shortB f.params with
        | false =>
          simp only [hH1, RR, seval]
          exact hK _ _ ⟨_, rfl, by simp only [fewF, hs1]; rfl, rfl, hik, h5, h2, hHb, hH1⟩
        | true =>
          simp only [hH1, RR, seval]
          refine awpC_pure' c2 ?_; simp only [RR, seval]
          cases hs2 : shortB f.locs with
          | false =>
            simp only [hH1, RR, seval]
            exact hK _ _ ⟨_, rfl, by simp only [fewF, hs1, hs2]; rfl, rfl, hik, h5, h2, hHb, hH1⟩
          | true =>
            simp only [hH1, RR, seval]
            refine hK _ _ ⟨_, rfl, ?_, rfl, hik, h5, h2, hHb, hH1⟩
            rw [fewF, hs1, hs2, Bool.true_and, Bool.true_and, Bool.eq_iff_iff]
            simp only [decide_eq_true_eq, Bool.not_eq_true', decide_eq_false_iff_not]; omega
      · rintro fr H ⟨t, h80, ht, h8, hik, h5, h2, hb, hb1⟩
        refine awp_if _ h80 (fun hc => ?_) (fun hc => ?_)
        · have hff : fewF f = false := by rw [hc] at ht; simpa using ht.symm
          refine awp_seq_k fun K hK => ?_; refine awp_region rfl ?_; simp only [RR, seval]
          refine hK _ _ ?_; clear hK K
          refine awp_ret ?_; simp only [thenQ, blockQ, bodyQ, aresult, ares, argF, RR, seval]; refine Gives.pure ?_
          rw [hall2, hff]; rfl
        · have hff : fewF f = true := by
            rw [hc] at ht
            cases e : fewF f with
            | true => rfl
            | false => rw [e] at ht; cases ht
          rw [hff, Bool.true_and] at hall2
          simp only [fewF, Bool.and_eq_true, decide_eq_true_eq] at hff
          have l1 := (shortB_len hff.1.1).1
          have l2 := (shortB_len hff.1.2).1
          have w1 : IntKind.wrap .i64 (x - f.params.length) = x - f.params.length := IntWalk.i64_in _ (by omega)
          have w2 : IntKind.wrap .i64 (x - f.params.length - f.locs.length) = x - f.params.length - f.locs.length := IntWalk.i64_in _ (by omega)
          have hbd := leftS_hi f.body (x - f.params.length - f.locs.length) 60
          simp only [ite_self] at hbd
          have hkf : k < 70 := by omega
          refine awp_skip ?_; simp only [thenQ, blockQ]
          refine awp_region rfl ?_
          simp only [h8, hb1, h5, List.length_map, w1, w2, RR, seval]
          refine awpC_pure' (LeftStmts_con _ f.body (x - f.params.length - f.locs.length) 60 rfl hokf.body (by omega) (by omega) (by omega) (by omega)) ?_; simp only [RR, seval]
          try simp only [thenQ, blockQ]
          refine awp_region rfl ?_; simp only [RR, seval]
          simp only [hik, thenQ, blockQ, RR, seval]
          rw [IntWalk.i64_in _ (by omega)]
          refine hK2 (fs.length - (k + 1)) _ _ (by omega) ⟨k + 1, rfl, by omega, rfl, _, hall2, hlf, ?_, by omega, rfl, h2, hb⟩
          by_cases hneg : x - f.params.length - f.locs.length < 0
          · rw [hbd.2.2 hneg]; omega
          · have := hbd.2.1 (by omega); omega
    · refine awp_exit ?_; simp only [thenQ, blockQ, reduceIte, Nat.reduceEqDiff]
      have hknk : k = fs.length := by have := of_decide_eq_false hc; omega
      clear hc
      subst hknk
      rw [List.drop_length] at hall2 hlf
      rw [leftF] at hlf
      exact hK _ _ ⟨hall2, by rw [hlf]; exact h5⟩
  rintro fr H ⟨hall2, h5⟩
  refine awp_seq_k fun K hK => ?_; refine awp_region rfl ?_; simp only [RR, seval]
  simp only [h5, RR, seval]
  refine hK _ _ ?_; clear hK K
  refine awp_ret ?_; simp only [thenQ, blockQ, bodyQ, aresult, ares, argF, RR, seval]; refine Gives.pure ?_
  rw [hall2, Bool.true_and]
end Go.Proofs.YtgcncdjnipfolaaDoor

namespace Go.Proofs.YtgcncdjnipfolaaDoor
open Go.Al
theorem nameB_words {s : Str} (h : wordsL.contains s = true) : nameB s = false := by
  cases s with
  | nil => rfl
  | cons c r => simp only [nameB, h, Bool.not_true, Bool.and_false]
theorem words14_con : PCon env 54 [] (.isl 1 (wordsL.map fun w => [.str w])) := by
  refine con_of 2 [.tmp 0] Tryd.func54 rfl rfl rfl rfl ?_
  refine awp_seq_k fun K hK => ?_; refine awp_region rfl ?_; simp only [RR, seval]
  refine hK _ _ ?_; clear hK K
  refine awp_seq_k fun K hK => ?_; refine awp_region rfl ?_; simp only [RR, seval]
  refine awpB_sealed ?_
  simp only [RR, seval]
  refine hK _ _ ?_; clear hK K
  refine awp_ret ?_; simp only [thenQ, blockQ, bodyQ, aresult, ares, argF, RR, seval]; refine Gives.pure ?_
  rfl
theorem IsName_con (s : Str) (hs : fitL s) : PCon env 31 [.str s] (.bool (nameB s)) := by
  refine con_of 20 [.tmp 2] Tryd.func31 rfl rfl rfl rfl ?_
  refine awp_seq_k fun K hK => ?_; refine awp_region rfl ?_; simp only [RR, seval]
  refine hK _ _ ?_; clear hK K
  refine awp_seq_k fun K hK => ?_; refine awp_region rfl ?_; simp only [RR, seval]
  refine awpC_pure' words14_con ?_; simp only [RR, seval]
  refine hK _ _ ?_; clear hK K
  refine awp_cutK (fun fr H => fr 0 = .str s) (fun K hK => ?_) ?_
  · refine awp_seq_k fun K hK => ?_; refine awp_region rfl ?_; simp only [RR, seval]
    refine hK _ _ ?_; clear hK K
    refine awp_block ?_
    refine awp_loopK (fun mm fr H => ∃ k : Nat, mm = wordsL.length - k ∧ k ≤ wordsL.length ∧ fr 4 = .int .i64 k ∧ fr 0 = .str s ∧ fr 3 = .isl 1 (wordsL.map fun w => [.str w])) (wordsL.length) ⟨0, rfl, Nat.zero_le _, rfl, rfl, rfl⟩ ?_
    rintro mm fr H ⟨k, rfl, hkk, hik, h0, h3⟩ K2 hK2
    refine awp_seq ?_
    refine awp_seq_k fun K hK => ?_; refine awp_region rfl ?_; simp only [RR, seval]
    simp only [hik, h3,List.length_map, RR, seval]
    refine hK _ _ ?_; clear hK K
    refine awp_if _ rfl (fun hc => ?_) (fun hc => ?_)
    · have hltk : k < wordsL.length := by have := of_decide_eq_true hc; omega
      clear hc
      refine awp_skip ?_; simp only [thenQ, blockQ]
      refine awp_seq ?_
      refine awp_block ?_
      have hg : (wordsL.map fun w => [AV.str w])[k]? = some [.str wordsL[k]] := by rw [List.getElem?_map, List.getElem?_eq_getElem hltk]; rfl
      have hmem := List.getElem_mem hltk
      generalize wordsL[k] = w at hg hmem
      refine awp_seq_k fun K hK => ?_; refine awp_region rfl ?_; simp only [RR, seval]
      simp only [h0, h3, hik, hg, RR, seval]
      refine hK _ _ ?_; clear hK K
      refine awp_if _ rfl (fun hc => ?_) (fun hc => ?_)
      · refine awp_seq_k fun K hK => ?_; refine awp_region rfl ?_; simp only [RR, seval]
        refine hK _ _ ?_; clear hK K
        refine awp_ret ?_; simp only [thenQ, blockQ, bodyQ, aresult, ares, argF, RR, seval]; refine Gives.pure ?_
        have : s = w := of_decide_eq_true hc
        subst this
        rw [nameB_words (by simpa using hmem)]
      · have hwl : wordsL.length = 10 := rfl
        refine awp_skip ?_; simp only [thenQ, blockQ]
        refine awp_region rfl ?_; simp only [RR, seval]
        simp only [hik, thenQ, blockQ, RR, seval]
        rw [IntWalk.i64_in _ (by omega)]
        refine hK2 (wordsL.length - (k + 1)) _ _ (by omega) ⟨k + 1, rfl, by omega, rfl, h0, h3⟩
    · refine awp_exit ?_; simp only [thenQ, blockQ, reduceIte, Nat.reduceEqDiff]
      have hknk : k = wordsL.length := by have := of_decide_eq_false hc; omega
      clear hc
      subst hknk
      exact hK _ _ h0
  · rintro fr H h0
    refine awp_seq_k fun K hK => ?_; refine awp_region rfl ?_; simp only [RR, seval]
    simp only [h0, RR, seval]
    refine awpC_pure' (rName_con s hs) ?_; simp only [RR, seval]
    refine hK _ _ ?_; clear hK K
    refine awp_ret ?_; simp only [thenQ, blockQ, bodyQ, aresult, ares, argF, RR, seval]; refine Gives.pure ?_
    rfl
theorem names14_con (l : List Str) (hl : okN l) : PCon env 30 [.isl 1 (l.map strRow)] (.bool (l.all nameB)) := by
  have hfit : l.length ≤ 9223372036854775807 := hl.fit
  refine con_of 16 [.tmp 2] Tryd.func30 rfl rfl rfl rfl ?_
  refine awp_seq_k fun K hK => ?_; refine awp_region rfl ?_; simp only [RR, seval]
  refine hK _ _ ?_; clear hK K
  refine awp_cutK (fun fr H => l.all nameB = true) (fun K hK => ?_) ?_
  · refine awp_seq_k fun K hK => ?_; refine awp_region rfl ?_; simp only [RR, seval]
    refine hK _ _ ?_; clear hK K
    refine awp_block ?_
    refine awp_loopK (fun mm fr H => ∃ k : Nat, mm = l.length - k ∧ k ≤ l.length ∧ fr 3 = .int .i64 k ∧ fr 0 = .isl 1 (l.map strRow) ∧ l.all nameB = (l.drop k).all nameB) (l.length) ⟨0, rfl, Nat.zero_le _, rfl, rfl, by rw [List.drop_zero]⟩ ?_
    rintro mm fr H ⟨k, rfl, hkk, hik, h0, hall⟩ K2 hK2
    refine awp_seq ?_
    refine awp_seq_k fun K hK => ?_; refine awp_region rfl ?_; simp only [RR, seval]
    simp only [hik, h0,List.length_map, RR, seval]
    refine hK _ _ ?_; clear hK K
    refine awp_if _ rfl (fun hc => ?_) (fun hc => ?_)
    · have hltk : k < l.length := by have := of_decide_eq_true hc; omega
      clear hc
      refine awp_skip ?_; simp only [thenQ, blockQ]
      refine awp_seq ?_
      refine awp_block ?_
      have hg := getN (List.getElem?_eq_getElem hltk)
      have hf := hl.all _ (List.getElem_mem hltk)
      rw [List.drop_eq_getElem_cons hltk, List.all_cons] at hall
      generalize l[k] = s at hg hall hf
      refine awp_seq_k fun K hK => ?_; refine awp_region rfl ?_; simp only [RR, seval]
      simp only [h0, hik, hg, RR, seval]
      refine awpC_pure' (IsName_con s hf) ?_; simp only [RR, seval]
      refine hK _ _ ?_; clear hK K
      refine awp_if (!nameB s) rfl (fun hc => ?_) (fun hc => ?_)
      · refine awp_seq_k fun K hK => ?_; refine awp_region rfl ?_; simp only [RR, seval]
        refine hK _ _ ?_; clear hK K
        refine awp_ret ?_; simp only [thenQ, blockQ, bodyQ, aresult, ares, argF, RR, seval]; refine Gives.pure ?_
        rw [hall, show nameB s = false by simpa using hc]; rfl
      · refine awp_skip ?_; simp only [thenQ, blockQ]
        rw [show nameB s = true by simpa using hc, Bool.true_and] at hall
        refine awp_region rfl ?_; simp only [RR, seval]
        simp only [hik, thenQ, blockQ, RR, seval]
        rw [IntWalk.i64_in _ (by omega)]
        refine hK2 (l.length - (k + 1)) _ _ (by omega) ⟨k + 1, rfl, by omega, rfl, h0, hall⟩
    · refine awp_exit ?_; simp only [thenQ, blockQ, reduceIte, Nat.reduceEqDiff]
      have hknk : k = l.length := by have := of_decide_eq_false hc; omega
      clear hc
      subst hknk
      rw [List.drop_length] at hall
      exact hK _ _ hall
  · rintro fr H h0
    refine awp_seq_k fun K hK => ?_; refine awp_region rfl ?_; simp only [RR, seval]
    refine hK _ _ ?_; clear hK K
    refine awp_ret ?_; simp only [thenQ, blockQ, bodyQ, aresult, ares, argF, RR, seval]; refine Gives.pure ?_
    rw [h0]
def headX (e : Ex) (level : Int) : Bool :=
  decide (level ≤ 24) && (decide (e.kind = 6) || decide (e.op = 0)) && (decide (e.kind = 1) || decide (e.num = 0)) &&
    (if e.kind = 2 ∨ e.kind = 3 ∨ e.kind = 4 then nameB e.name else decide (e.name = []))
def kidsX (k o : Int) (n : Nat) : Bool :=
  if k = 1 ∨ k = 2 ∨ k = 5 then decide (n = 0) else if k = 3 ∨ k = 7 then decide (n = 1) else if k = 4 then decide (n ≤ 6)
  else if k = 6 then decide (4 ≤ o) && decide (o ≤ 15) && decide (n = 2) else if k = 8 ∨ k = 9 then decide (n = 2) else false
def rightE : List Ex → Int → Bool
  | [], _ => true
  | .mk k o n s kids :: l, level => headX (.mk k o n s kids) level && kidsX k o kids.length && rightE kids (level + 1) && rightE l level
def rightX (e : Ex) (level : Int) : Bool := headX e level && kidsX e.kind e.op e.kids.length && rightE e.kids (level + 1)
theorem rightE_cons (e : Ex) (l : List Ex) (level : Int) : rightE (e :: l) level = (rightX e level && rightE l level) := by
  cases e; rw [rightE]; rfl
theorem rightE_nil (level : Int) : rightE [] level = true := by rw [rightE]
set_option maxHeartbeats 4000000 in
theorem RightExpr_step (e : Ex) (he : e.ok) (level : Int) (h1 : -1000000 ≤ level) (h2 : level ≤ 1000000)
    (ih : level ≤ 24 → PCon env 47 [.isl 5 (e.kids.map Ex.row), .int .i64 (level + 1)] (.bool (rightE e.kids (level + 1)))) :
    PCon env 21 [.agg e.row, .int .i64 level] (.bool (rightX e level)) := by
  have hname := IsName_con e.name he.name
  have hrow := e.row_eq
  generalize he2 : rightX e level = res
  rw [hrow]
  have hkids : e.kids.length ≤ 9223372036854775807 := he.kids.fit
  obtain ⟨k, o, n, s, l⟩ := e
  simp only [Ex.kind, Ex.op, Ex.num, Ex.name, Ex.kids] at ih hname hkids ⊢
  clear hrow he
  have hX : rightX (.mk k o n s l) level = ((decide (level ≤ 24) && (decide (k = 6) || decide (o = 0)) && (decide (k = 1) || decide (n = 0))) && (if k = 2 ∨ k = 3 ∨ k = 4 then nameB s else decide (s = [])) && kidsX k o l.length && rightE l (level + 1)) := rfl
  refine con_of 123 [.tmp 4] Tryd.func21 rfl rfl rfl rfl ?_
  refine awp_cutK (fun fr H => ∃ b, fr 1 = .int .i64 level ∧ fr 2 = .ptr 5 b 0 0 ∧ H b = some (.rows 5 [[.int .i64 k, .int .i64 o, .int .u32 n, .str s, .isl 5 (l.map Ex.row)]])) (fun K hK => ?_) ?_
  · refine awp_region rfl ?_; simp only [RR, seval]
    refine awpN_intro fun b hb => ?_; simp only [RR, seval]
    exact hK _ _ ⟨b, rfl, rfl, upd_same _ _ _⟩
  rintro fr H ⟨b, f1, f2, hb⟩
  refine awp_seq ?_
  refine awp_cutK (fun fr H => ∃ t, fr 28 = .bool t ∧ (t = !(decide (level ≤ 24) && (decide (k = 6) || decide (o = 0)) && (decide (k = 1) || decide (n = 0)))) ∧ fr 1 = .int .i64 level ∧ fr 2 = .ptr 5 b 0 0 ∧ H b = some (.rows 5 [[.int .i64 k, .int .i64 o, .int .u32 n, .str s, .isl 5 (l.map Ex.row)]])) (fun K hK => ?_) ?_
  · refine awp_region rfl ?_; simp only [RR, seval]
    simp only [f1, f2, hb, RR, seval]
    repeat' ((first | refine awpG_splitN (fun h => ?_) (fun h => ?_) | refine awpG_split (fun h => ?_) (fun h => ?_)) <;> simp only [h, f1, f2, hb, RR, seval])
    all_goals
      refine hK _ _ ⟨_, rfl, ?_, f1, f2, hb⟩
      clear hK
      simp_all <;> omega
  rintro fr H ⟨t, f28, ht, f1, f2, hb⟩
  refine awp_if _ f28 (fun hc => ?_) (fun hc => ?_)
  · refine awp_seq_k fun K hK => ?_; refine awp_region rfl ?_; simp only [RR, seval]
    refine hK _ _ ?_; clear hK K
    refine awp_ret ?_; simp only [thenQ, blockQ, bodyQ, aresult, ares, argF, RR, seval]; refine Gives.pure ?_
    rw [← he2]
    have : (decide (level ≤ 24) && (decide (k = 6) || decide (o = 0)) && (decide (k = 1) || decide (n = 0))) = false := by
      cases e : (decide (level ≤ 24) && (decide (k = 6) || decide (o = 0)) && (decide (k = 1) || decide (n = 0))) with
      | false => rfl
      | true => rw [e, hc] at ht; cases ht
    rw [hX, this]; rfl
  have h3 : (decide (level ≤ 24) && (decide (k = 6) || decide (o = 0)) && (decide (k = 1) || decide (n = 0))) = true := by
    cases e : (decide (level ≤ 24) && (decide (k = 6) || decide (o = 0)) && (decide (k = 1) || decide (n = 0))) with
    | true => rfl
    | false => rw [e, hc] at ht; cases ht
  have hlev : level ≤ 24 := by simp only [Bool.and_eq_true, decide_eq_true_eq] at h3; exact h3.1.1
  have hres : res = ((if k = 2 ∨ k = 3 ∨ k = 4 then nameB s else decide (s = [])) && kidsX k o l.length && rightE l (level + 1)) := by
    rw [← he2, hX, h3, Bool.true_and]
  have ih2 := ih hlev
  clear ht hc f28 t
  refine awp_skip ?_; simp only [thenQ, blockQ]
  refine awp_cutK (fun fr H => fr 5 = .bool (decide (k = 2 ∨ k = 3 ∨ k = 4)) ∧ fr 1 = .int .i64 level ∧ fr 2 = .ptr 5 b 0 0 ∧ H b = some (.rows 5 [[.int .i64 k, .int .i64 o, .int .u32 n, .str s, .isl 5 (l.map Ex.row)]])) (fun K hK => ?_) ?_
  · refine awp_region rfl ?_; simp only [RR, seval]
    simp only [f1, f2, hb, RR, seval]
    repeat' ((first | refine awpG_splitN (fun h => ?_) (fun h => ?_) | refine awpG_split (fun h => ?_) (fun h => ?_)) <;> simp only [h, f1, f2, hb, RR, seval])
    all_goals
      refine hK _ _ ⟨?_, f1, f2, hb⟩
      clear hK
      simp [upd]
      simp_all
  rintro fr H ⟨f5, f1, f2, hb⟩
  refine awp_seq ?_
  refine awp_cutK (fun fr H => ∃ t, fr 55 = .bool t ∧ (t = !(if k = 2 ∨ k = 3 ∨ k = 4 then nameB s else decide (s = []))) ∧ fr 1 = .int .i64 level ∧ fr 2 = .ptr 5 b 0 0 ∧ H b = some (.rows 5 [[.int .i64 k, .int .i64 o, .int .u32 n, .str s, .isl 5 (l.map Ex.row)]])) (fun K hK => ?_) ?_
  · by_cases hk : k = 2 ∨ k = 3 ∨ k = 4
    · have e1 : decide (k = 2 ∨ k = 3 ∨ k = 4) = true := decide_eq_true hk
      rw [e1] at f5
      by_cases hsn : s = []
      · have e2 : decide (s = []) = true := decide_eq_true hsn
        refine awp_region rfl ?_; simp only [RR, seval]
        simp only [f1, f2, f5, hb, e2, RR, seval]
        exact hK _ _ ⟨_, rfl, by rw [if_pos hk, hsn]; rfl, f1, f2, hb⟩
      · have e2 : decide (s = []) = false := decide_eq_false hsn
        refine awp_region rfl ?_; simp only [RR, seval]
        simp only [f1, f2, f5, hb, e2, RR, seval]
        refine awpC_pure' hname ?_; simp only [RR, seval]
        refine hK _ _ ⟨_, rfl, by rw [if_pos hk], f1, f2, hb⟩
    · have e1 : decide (k = 2 ∨ k = 3 ∨ k = 4) = false := decide_eq_false hk
      rw [e1] at f5
      by_cases hsn : s = []
      · have e2 : decide (s = []) = true := decide_eq_true hsn
        refine awp_region rfl ?_; simp only [RR, seval]
        simp only [f1, f2, f5, hb, e2, RR, seval]
        exact hK _ _ ⟨_, rfl, by rw [if_neg hk, e2]; rfl, f1, f2, hb⟩
      · have e2 : decide (s = []) = false := decide_eq_false hsn
        refine awp_region rfl ?_; simp only [RR, seval]
        simp only [f1, f2, f5, hb, e2, RR, seval]
        exact hK _ _ ⟨_, rfl, by rw [if_neg hk, e2]; rfl, f1, f2, hb⟩
  rintro fr H ⟨t, f55, ht, f1, f2, hb⟩
  refine awp_if _ f55 (fun hc => ?_) (fun hc => ?_)
  · refine awp_seq_k fun K hK => ?_; refine awp_region rfl ?_; simp only [RR, seval]
    refine hK _ _ ?_; clear hK K
    refine awp_ret ?_; simp only [thenQ, blockQ, bodyQ, aresult, ares, argF, RR, seval]; refine Gives.pure ?_
    have : (if k = 2 ∨ k = 3 ∨ k = 4 then nameB s else decide (s = [])) = false := by
      rw [hc] at ht
      cases e : (if k = 2 ∨ k = 3 ∨ k = 4 then nameB s else decide (s = [])) with
      | false => rfl
      | true => rw [e] at ht; cases ht
    rw [hres, this]; rfl
  have hnm : (if k = 2 ∨ k = 3 ∨ k = 4 then nameB s else decide (s = [])) = true := by
    rw [hc] at ht
    cases e : (if k = 2 ∨ k = 3 ∨ k = 4 then nameB s else decide (s = [])) with
    | true => rfl
    | false => rw [e] at ht; cases ht
  rw [hnm, Bool.true_and] at hres
  clear ht hc f55 t h3 hnm he2
  refine awp_skip ?_; simp only [thenQ, blockQ]
  refine awp_seq_k fun K hK => ?_; refine awp_region rfl ?_; simp only [RR, seval]
  simp only [f2, hb, List.length_map, RR, seval]
  refine hK _ _ ?_; clear hK K
  have w1 : IntKind.wrap .i64 (level + 1) = level + 1 := IntWalk.i64_in _ (by omega)
  have l0 : ∀ m : Nat, decide ((l.length : Int) = m) = decide (l.length = m) := fun m => by rw [Bool.eq_iff_iff]; simp only [decide_eq_true_eq]; omega
  have l6 : decide ((l.length : Int) ≤ 6) = decide (l.length ≤ 6) := by rw [Bool.eq_iff_iff]; simp only [decide_eq_true_eq]; omega
  have d0 : decide ((l.length : Int) = 0) = decide (l.length = 0) := l0 0
  have d1 : decide ((l.length : Int) = 1) = decide (l.length = 1) := l0 1
  have d2 : decide ((l.length : Int) = 2) = decide (l.length = 2) := l0 2
  clear l0
  subst hres
  by_cases k1 : k = 1
  · subst k1
    repeat' (first | (refine awp_seq_k fun K hK => ?_; refine awp_region rfl ?_; simp only [f1, f2, hb, d0, RR, seval]; refine hK _ _ ?_; clear hK K) | (refine awp_seq ?_) | (refine awp_block ?_) | (refine awp_if true rfl (fun _ => ?_) (fun hc => by cases hc)) | (refine awp_if false rfl (fun hc => by cases hc) (fun _ => ?_)) | (refine awp_skip ?_; simp only [thenQ, blockQ]) | (refine awp_exit ?_; simp only [thenQ, blockQ, reduceIte, Nat.reduceEqDiff]) | (refine awp_region rfl ?_; simp only [f1, f2, hb, d0, thenQ, blockQ, RR, seval]) | (refine awpG_splitN (fun h => ?_) (fun h => ?_) <;> simp only [h, f1, f2, hb, d0, thenQ, blockQ, RR, seval]) | (refine awpG_split (fun h => ?_) (fun h => ?_) <;> simp only [h, f1, f2, hb, d0, thenQ, blockQ, RR, seval]) | (refine awp_if _ rfl (fun h => ?_) (fun h => ?_)) | (refine awp_ret ?_; simp only [thenQ, blockQ, bodyQ, aresult, ares, argF, f1, f2, hb, d0, RR, seval]; refine Gives.pure ?_))
    cases l with
    | nil => simp only [kidsX, rightE_nil]; rfl
    | cons => simp [kidsX]
  by_cases k1 : k = 2
  · subst k1
    repeat' (first | (refine awp_seq_k fun K hK => ?_; refine awp_region rfl ?_; simp only [f1, f2, hb, d0, RR, seval]; refine hK _ _ ?_; clear hK K) | (refine awp_seq ?_) | (refine awp_block ?_) | (refine awp_if true rfl (fun _ => ?_) (fun hc => by cases hc)) | (refine awp_if false rfl (fun hc => by cases hc) (fun _ => ?_)) | (refine awp_skip ?_; simp only [thenQ, blockQ]) | (refine awp_exit ?_; simp only [thenQ, blockQ, reduceIte, Nat.reduceEqDiff]) | (refine awp_region rfl ?_; simp only [f1, f2, hb, d0, thenQ, blockQ, RR, seval]) | (refine awpG_splitN (fun h => ?_) (fun h => ?_) <;> simp only [h, f1, f2, hb, d0, thenQ, blockQ, RR, seval]) | (refine awpG_split (fun h => ?_) (fun h => ?_) <;> simp only [h, f1, f2, hb, d0, thenQ, blockQ, RR, seval]) | (refine awp_if _ rfl (fun h => ?_) (fun h => ?_)) | (refine awp_ret ?_; simp only [thenQ, blockQ, bodyQ, aresult, ares, argF, f1, f2, hb, d0, RR, seval]; refine Gives.pure ?_))
    cases l with
    | nil => simp only [kidsX, rightE_nil]; rfl
    | cons => simp [kidsX]
  by_cases k1 : k = 5
  · subst k1
    repeat' (first | (refine awp_seq_k fun K hK => ?_; refine awp_region rfl ?_; simp only [f1, f2, hb, d0, RR, seval]; refine hK _ _ ?_; clear hK K) | (refine awp_seq ?_) | (refine awp_block ?_) | (refine awp_if true rfl (fun _ => ?_) (fun hc => by cases hc)) | (refine awp_if false rfl (fun hc => by cases hc) (fun _ => ?_)) | (refine awp_skip ?_; simp only [thenQ, blockQ]) | (refine awp_exit ?_; simp only [thenQ, blockQ, reduceIte, Nat.reduceEqDiff]) | (refine awp_region rfl ?_; simp only [f1, f2, hb, d0, thenQ, blockQ, RR, seval]) | (refine awpG_splitN (fun h => ?_) (fun h => ?_) <;> simp only [h, f1, f2, hb, d0, thenQ, blockQ, RR, seval]) | (refine awpG_split (fun h => ?_) (fun h => ?_) <;> simp only [h, f1, f2, hb, d0, thenQ, blockQ, RR, seval]) | (refine awp_if _ rfl (fun h => ?_) (fun h => ?_)) | (refine awp_ret ?_; simp only [thenQ, blockQ, bodyQ, aresult, ares, argF, f1, f2, hb, d0, RR, seval]; refine Gives.pure ?_))
    cases l with
    | nil => simp only [kidsX, rightE_nil]; rfl
    | cons => simp [kidsX]
  by_cases k1 : k = 3
  · subst k1
    repeat' (first | (refine awp_seq_k fun K hK => ?_; refine awp_region rfl ?_; simp only [f1, f2, hb, d1, w1, RR, seval]; refine hK _ _ ?_; clear hK K) | (refine awp_seq ?_) | (refine awp_block ?_) | (refine awp_if true rfl (fun _ => ?_) (fun hc => by cases hc)) | (refine awp_if false rfl (fun hc => by cases hc) (fun _ => ?_)) | (refine awp_skip ?_; simp only [thenQ, blockQ]) | (refine awp_exit ?_; simp only [thenQ, blockQ, reduceIte, Nat.reduceEqDiff]) | (refine awp_region rfl ?_; simp only [f1, f2, hb, d1, w1, thenQ, blockQ, RR, seval]) | (refine awpG_splitN (fun h => ?_) (fun h => ?_) <;> simp only [h, f1, f2, hb, d1, w1, thenQ, blockQ, RR, seval]) | (refine awpG_split (fun h => ?_) (fun h => ?_) <;> simp only [h, f1, f2, hb, d1, w1, thenQ, blockQ, RR, seval]) | (refine awp_if _ rfl (fun h => ?_) (fun h => ?_)) | (refine awp_ret ?_; simp only [thenQ, blockQ, bodyQ, aresult, ares, argF, f1, f2, hb, d1, w1, RR, seval]; refine Gives.pure ?_) | (refine awpC_pure' (ih2) ?_; simp only [f1, f2, hb, d1, w1, thenQ, blockQ, RR, seval]))
    all_goals simp [kidsX, *]
  by_cases k1 : k = 7
  · subst k1
    repeat' (first | (refine awp_seq_k fun K hK => ?_; refine awp_region rfl ?_; simp only [f1, f2, hb, d1, w1, RR, seval]; refine hK _ _ ?_; clear hK K) | (refine awp_seq ?_) | (refine awp_block ?_) | (refine awp_if true rfl (fun _ => ?_) (fun hc => by cases hc)) | (refine awp_if false rfl (fun hc => by cases hc) (fun _ => ?_)) | (refine awp_skip ?_; simp only [thenQ, blockQ]) | (refine awp_exit ?_; simp only [thenQ, blockQ, reduceIte, Nat.reduceEqDiff]) | (refine awp_region rfl ?_; simp only [f1, f2, hb, d1, w1, thenQ, blockQ, RR, seval]) | (refine awpG_splitN (fun h => ?_) (fun h => ?_) <;> simp only [h, f1, f2, hb, d1, w1, thenQ, blockQ, RR, seval]) | (refine awpG_split (fun h => ?_) (fun h => ?_) <;> simp only [h, f1, f2, hb, d1, w1, thenQ, blockQ, RR, seval]) | (refine awp_if _ rfl (fun h => ?_) (fun h => ?_)) | (refine awp_ret ?_; simp only [thenQ, blockQ, bodyQ, aresult, ares, argF, f1, f2, hb, d1, w1, RR, seval]; refine Gives.pure ?_) | (refine awpC_pure' (ih2) ?_; simp only [f1, f2, hb, d1, w1, thenQ, blockQ, RR, seval]))
    all_goals simp [kidsX, *]
  by_cases k1 : k = 4
  · subst k1
    repeat' (first | (refine awp_seq_k fun K hK => ?_; refine awp_region rfl ?_; simp only [f1, f2, hb, l6, w1, RR, seval]; refine hK _ _ ?_; clear hK K) | (refine awp_seq ?_) | (refine awp_block ?_) | (refine awp_if true rfl (fun _ => ?_) (fun hc => by cases hc)) | (refine awp_if false rfl (fun hc => by cases hc) (fun _ => ?_)) | (refine awp_skip ?_; simp only [thenQ, blockQ]) | (refine awp_exit ?_; simp only [thenQ, blockQ, reduceIte, Nat.reduceEqDiff]) | (refine awp_region rfl ?_; simp only [f1, f2, hb, l6, w1, thenQ, blockQ, RR, seval]) | (refine awpG_splitN (fun h => ?_) (fun h => ?_) <;> simp only [h, f1, f2, hb, l6, w1, thenQ, blockQ, RR, seval]) | (refine awpG_split (fun h => ?_) (fun h => ?_) <;> simp only [h, f1, f2, hb, l6, w1, thenQ, blockQ, RR, seval]) | (refine awp_if _ rfl (fun h => ?_) (fun h => ?_)) | (refine awp_ret ?_; simp only [thenQ, blockQ, bodyQ, aresult, ares, argF, f1, f2, hb, l6, w1, RR, seval]; refine Gives.pure ?_) | (refine awpC_pure' (ih2) ?_; simp only [f1, f2, hb, l6, w1, thenQ, blockQ, RR, seval]))
    all_goals simp [kidsX, *]
  by_cases k1 : k = 6
  · subst k1
    repeat' (first | (refine awp_seq_k fun K hK => ?_; refine awp_region rfl ?_; simp only [f1, f2, hb, d2, w1, RR, seval]; refine hK _ _ ?_; clear hK K) | (refine awp_seq ?_) | (refine awp_block ?_) | (refine awp_if true rfl (fun _ => ?_) (fun hc => by cases hc)) | (refine awp_if false rfl (fun hc => by cases hc) (fun _ => ?_)) | (refine awp_skip ?_; simp only [thenQ, blockQ]) | (refine awp_exit ?_; simp only [thenQ, blockQ, reduceIte, Nat.reduceEqDiff]) | (refine awp_region rfl ?_; simp only [f1, f2, hb, d2, w1, thenQ, blockQ, RR, seval]) | (refine awpG_splitN (fun h => ?_) (fun h => ?_) <;> simp only [h, f1, f2, hb, d2, w1, thenQ, blockQ, RR, seval]) | (refine awpG_split (fun h => ?_) (fun h => ?_) <;> simp only [h, f1, f2, hb, d2, w1, thenQ, blockQ, RR, seval]) | (refine awp_if _ rfl (fun h => ?_) (fun h => ?_)) | (refine awp_ret ?_; simp only [thenQ, blockQ, bodyQ, aresult, ares, argF, f1, f2, hb, d2, w1, RR, seval]; refine Gives.pure ?_) | (refine awpC_pure' (ih2) ?_; simp only [f1, f2, hb, d2, w1, thenQ, blockQ, RR, seval]))
    all_goals simp [kidsX, *]
  by_cases k1 : k = 8
  · subst k1
    repeat' (first | (refine awp_seq_k fun K hK => ?_; refine awp_region rfl ?_; simp only [f1, f2, hb, d2, w1, RR, seval]; refine hK _ _ ?_; clear hK K) | (refine awp_seq ?_) | (refine awp_block ?_) | (refine awp_if true rfl (fun _ => ?_) (fun hc => by cases hc)) | (refine awp_if false rfl (fun hc => by cases hc) (fun _ => ?_)) | (refine awp_skip ?_; simp only [thenQ, blockQ]) | (refine awp_exit ?_; simp only [thenQ, blockQ, reduceIte, Nat.reduceEqDiff]) | (refine awp_region rfl ?_; simp only [f1, f2, hb, d2, w1, thenQ, blockQ, RR, seval]) | (refine awpG_splitN (fun h => ?_) (fun h => ?_) <;> simp only [h, f1, f2, hb, d2, w1, thenQ, blockQ, RR, seval]) | (refine awpG_split (fun h => ?_) (fun h => ?_) <;> simp only [h, f1, f2, hb, d2, w1, thenQ, blockQ, RR, seval]) | (refine awp_if _ rfl (fun h => ?_) (fun h => ?_)) | (refine awp_ret ?_; simp only [thenQ, blockQ, bodyQ, aresult, ares, argF, f1, f2, hb, d2, w1, RR, seval]; refine Gives.pure ?_) | (refine awpC_pure' (ih2) ?_; simp only [f1, f2, hb, d2, w1, thenQ, blockQ, RR, seval]))
    all_goals simp [kidsX, *]
  by_cases k1 : k = 9
  · subst k1
    repeat' (first | (refine awp_seq_k fun K hK => ?_; refine awp_region rfl ?_; simp only [f1, f2, hb, d2, w1, RR, seval]; refine hK _ _ ?_; clear hK K) | (refine awp_seq ?_) | (refine awp_block ?_) | (refine awp_if true rfl (fun _ => ?_) (fun hc => by cases hc)) | (refine awp_if false rfl (fun hc => by cases hc) (fun _ => ?_)) | (refine awp_skip ?_; simp only [thenQ, blockQ]) | (refine awp_exit ?_; simp only [thenQ, blockQ, reduceIte, Nat.reduceEqDiff]) | (refine awp_region rfl ?_; simp only [f1, f2, hb, d2, w1, thenQ, blockQ, RR, seval]) | (refine awpG_splitN (fun h => ?_) (fun h => ?_) <;> simp only [h, f1, f2, hb, d2, w1, thenQ, blockQ, RR, seval]) | (refine awpG_split (fun h => ?_) (fun h => ?_) <;> simp only [h, f1, f2, hb, d2, w1, thenQ, blockQ, RR, seval]) | (refine awp_if _ rfl (fun h => ?_) (fun h => ?_)) | (refine awp_ret ?_; simp only [thenQ, blockQ, bodyQ, aresult, ares, argF, f1, f2, hb, d2, w1, RR, seval]; refine Gives.pure ?_) | (refine awpC_pure' (ih2) ?_; simp only [f1, f2, hb, d2, w1, thenQ, blockQ, RR, seval]))
    all_goals simp [kidsX, *]
  · have g1 : decide (k = 1) = false := decide_eq_false (by assumption)
    have g2 : decide (k = 2) = false := decide_eq_false (by assumption)
    have g3 : decide (k = 3) = false := decide_eq_false (by assumption)
    have g4 : decide (k = 4) = false := decide_eq_false (by assumption)
    have g5 : decide (k = 5) = false := decide_eq_false (by assumption)
    have g6 : decide (k = 6) = false := decide_eq_false (by assumption)
    have g7 : decide (k = 7) = false := decide_eq_false (by assumption)
    have g8 : decide (k = 8) = false := decide_eq_false (by assumption)
    have g9 : decide (k = 9) = false := decide_eq_false (by assumption)
    repeat' (first | (refine awp_seq_k fun K hK => ?_; refine awp_region rfl ?_; simp only [f1, f2, hb, g1, g2, g3, g4, g5, g6, g7, g8, g9, RR, seval]; refine hK _ _ ?_; clear hK K) | (refine awp_seq ?_) | (refine awp_block ?_) | (refine awp_if true rfl (fun _ => ?_) (fun hc => by cases hc)) | (refine awp_if false rfl (fun hc => by cases hc) (fun _ => ?_)) | (refine awp_skip ?_; simp only [thenQ, blockQ]) | (refine awp_exit ?_; simp only [thenQ, blockQ, reduceIte, Nat.reduceEqDiff]) | (refine awp_region rfl ?_; simp only [f1, f2, hb, g1, g2, g3, g4, g5, g6, g7, g8, g9, thenQ, blockQ, RR, seval]) | (refine awpG_splitN (fun h => ?_) (fun h => ?_) <;> simp only [h, f1, f2, hb, g1, g2, g3, g4, g5, g6, g7, g8, g9, thenQ, blockQ, RR, seval]) | (refine awpG_split (fun h => ?_) (fun h => ?_) <;> simp only [h, f1, f2, hb, g1, g2, g3, g4, g5, g6, g7, g8, g9, thenQ, blockQ, RR, seval]) | (refine awp_if _ rfl (fun h => ?_) (fun h => ?_)) | (refine awp_ret ?_; simp only [thenQ, blockQ, bodyQ, aresult, ares, argF, f1, f2, hb, g1, g2, g3, g4, g5, g6, g7, g8, g9, RR, seval]; refine Gives.pure ?_))
    simp [kidsX, *]
theorem RightExprs_con (n : Nat) : ∀ (l : List Ex) (level : Int), szE l = n → okE l → -1000000 ≤ level → level ≤ 1000000 → PCon env 47 [.isl 5 (l.map Ex.row), .int .i64 level] (.bool (rightE l level)) := by
  induction n using Nat.strongRecOn with
  | _ n ih =>
    intro l level hn hok h1 h2
    have hfit : l.length ≤ 9223372036854775807 := hok.fit
    refine con_of 19 [.tmp 4] Tryd.func47 rfl rfl rfl rfl ?_
    refine awp_seq_k fun K hK => ?_; refine awp_region rfl ?_; simp only [RR, seval]
    refine hK _ _ ?_; clear hK K
    refine awp_cutK (fun fr H => rightE l level = true) (fun K hK => ?_) ?_
    · refine awp_seq_k fun K hK => ?_; refine awp_region rfl ?_; simp only [RR, seval]
      refine hK _ _ ?_; clear hK K
      refine awp_block ?_
      refine awp_loopK (fun mm fr H => ∃ k : Nat, mm = l.length - k ∧ k ≤ l.length ∧ fr 5 = .int .i64 k ∧ fr 0 = .isl 5 (l.map Ex.row) ∧ fr 1 = .int .i64 level ∧ rightE l level = rightE (l.drop k) level) (l.length) ⟨0, rfl, Nat.zero_le _, rfl, rfl, rfl, by rw [List.drop_zero]⟩ ?_
      rintro mm fr H ⟨k, rfl, hkk, hik, h0, f1, hall⟩ K2 hK2
      refine awp_seq ?_
      refine awp_seq_k fun K hK => ?_; refine awp_region rfl ?_; simp only [RR, seval]
      simp only [hik, h0,List.length_map, RR, seval]
      refine hK _ _ ?_; clear hK K
      refine awp_if _ rfl (fun hc => ?_) (fun hc => ?_)
      · have hltk : k < l.length := by have := of_decide_eq_true hc; omega
        clear hc
        refine awp_skip ?_; simp only [thenQ, blockQ]
        refine awp_seq ?_
        refine awp_block ?_
        have hg := getRow Ex.row (List.getElem?_eq_getElem hltk)
        have hmem := List.getElem_mem hltk
        have he := hok.all _ hmem
        have hsz := szE_mem hmem
        rw [List.drop_eq_getElem_cons hltk, rightE_cons] at hall
        generalize l[k] = e at hg hall he hsz
        have hse := e.sz_eq
        have hl5 := e.row_len
        have hcon := RightExpr_step e he level h1 h2 (fun hle => ih _ (by omega) e.kids (level + 1) rfl he.kids (by omega) (by omega))
        refine awp_seq_k fun K hK => ?_; refine awp_region rfl ?_; simp only [RR, seval]
        simp only [h0, f1, hik, hg, hl5, RR, seval]
        rw [List.take_of_length_le (by omega)]
        refine awpC_pure' hcon ?_; simp only [RR, seval]
        refine hK _ _ ?_; clear hK K
        refine awp_if (!rightX e level) rfl (fun hc => ?_) (fun hc => ?_)
        · refine awp_seq_k fun K hK => ?_; refine awp_region rfl ?_; simp only [RR, seval]
          refine hK _ _ ?_; clear hK K
          refine awp_ret ?_; simp only [thenQ, blockQ, bodyQ, aresult, ares, argF, RR, seval]; refine Gives.pure ?_
          rw [hall, show rightX e level = false by simpa using hc]; rfl
        · refine awp_skip ?_; simp only [thenQ, blockQ]
          rw [show rightX e level = true by simpa using hc, Bool.true_and] at hall
          refine awp_region rfl ?_; simp only [RR, seval]
          simp only [hik, thenQ, blockQ, RR, seval]
          rw [IntWalk.i64_in _ (by omega)]
          refine hK2 (l.length - (k + 1)) _ _ (by omega) ⟨k + 1, rfl, by omega, rfl, h0, f1, hall⟩
      · refine awp_exit ?_; simp only [thenQ, blockQ, reduceIte, Nat.reduceEqDiff]
        have hknk : k = l.length := by have := of_decide_eq_false hc; omega
        clear hc
        subst hknk
        rw [List.drop_length, rightE_nil] at hall
        exact hK _ _ hall
    · rintro fr H h0
      refine awp_seq_k fun K hK => ?_; refine awp_region rfl ?_; simp only [RR, seval]
      refine hK _ _ ?_; clear hK K
      refine awp_ret ?_; simp only [thenQ, blockQ, bodyQ, aresult, ares, argF, RR, seval]; refine Gives.pure ?_
      rw [h0]
end Go.Proofs.YtgcncdjnipfolaaDoor

namespace Go.Proofs.YtgcncdjnipfolaaDoor
open Go.Al
def headS (s : Sm) (level : Int) : Bool :=
  decide (level ≤ 24) && (decide (s.kind = 4) || decide (s.els.length = 0)) && (decide (s.kind = 4) || decide (s.kind = 5) || decide (s.thn.length = 0)) &&
    (if s.kind = 1 ∨ s.kind = 2 ∨ s.kind = 6 then nameB s.name else decide (s.name = []))
def fitS (k : Int) (n : Nat) : Bool :=
  if k = 1 ∨ k = 3 ∨ k = 4 ∨ k = 5 then decide (n = 1) else if k = 2 then decide (n = 2) else if k = 6 then decide (n ≤ 6) else if k = 7 then decide (n ≤ 1) else false
def rightS : List Sm → Int → Bool
  | [], _ => true
  | .mk k s es t u :: l, level => headS (.mk k s es t u) level && fitS k es.length && rightE es (level + 1) && rightS t (level + 1) && rightS u (level + 1) && rightS l level
def rightM (s : Sm) (level : Int) : Bool := headS s level && fitS s.kind s.es.length && rightE s.es (level + 1) && rightS s.thn (level + 1) && rightS s.els (level + 1)
theorem rightS_cons (e : Sm) (l : List Sm) (level : Int) : rightS (e :: l) level = (rightM e level && rightS l level) := by
  cases e; rw [rightS]; rfl
theorem rightS_nil (level : Int) : rightS [] level = true := by rw [rightS]
def rightA (a : Ar) : Bool := nameB a.name && decide (1 ≤ a.size) && decide (a.size ≤ 4096)
def rightF (f : Fu) : Bool := nameB f.name && decide (f.params.length ≤ 6) && f.params.all nameB && f.locs.all nameB && rightS f.body 1
def rightP (p : Pg) : Bool := p.vars.all nameB && decide (1 ≤ p.funs.length) && decide (p.funs.length ≤ 64) && p.arrs.all rightA && p.funs.all rightF
theorem bneg {a b : Bool} (h : a = !b) (ha : a = true) : b = false := by subst ha; cases b <;> simp_all
theorem bpos {a b : Bool} (h : a = !b) (ha : a = false) : b = true := by subst ha; cases b <;> simp_all
set_option maxHeartbeats 4000000 in
theorem RightStmt_step (e : Sm) (he : e.ok) (level : Int) (h1 : -1000000 ≤ level) (h2 : level ≤ 1000000)
    (ih : level ≤ 24 → ∀ x, x = e.thn ∨ x = e.els → PCon env 32 [.isl 5 (x.map Sm.row), .int .i64 (level + 1)] (.bool (rightS x (level + 1)))) :
    PCon env 56 [.agg e.row, .int .i64 level] (.bool (rightM e level)) := by
  have hname := IsName_con e.name he.name
  have hexs := fun h => RightExprs_con _ e.es (level + 1) rfl he.es (by omega) h
  have hrow := e.row_eq
  generalize he2 : rightM e level = res
  rw [hrow]
  have f3 : e.es.length ≤ 9223372036854775807 := he.es.fit
  have f4 : e.thn.length ≤ 9223372036854775807 := he.thn.fit
  have f5 : e.els.length ≤ 9223372036854775807 := he.els.fit
  obtain ⟨k, s, l, tt, u⟩ := e
  simp only [Sm.kind, Sm.name, Sm.es, Sm.thn, Sm.els] at ih hname hexs f3 f4 f5 ⊢
  clear hrow he
  have hX : rightM (.mk k s l tt u) level = ((decide (level ≤ 24) && (decide (k = 4) || decide (u.length = 0)) && (decide (k = 4) || decide (k = 5) || decide (tt.length = 0))) && (if k = 1 ∨ k = 2 ∨ k = 6 then nameB s else decide (s = [])) && fitS k l.length && rightE l (level + 1) && rightS tt (level + 1) && rightS u (level + 1)) := rfl
  rw [he2] at hX
  clear he2
  refine con_of 110 [.tmp 4] Tryd.func56 rfl rfl rfl rfl ?_
  refine awp_cutK (fun fr H => ∃ b, fr 1 = .int .i64 level ∧ fr 2 = .ptr 5 b 0 0 ∧ H b = some (.rows 5 [[.int .i64 k, .str s, .isl 5 (l.map Ex.row), .isl 5 (tt.map Sm.row), .isl 5 (u.map Sm.row)]])) (fun K hK => ?_) ?_
  · refine awp_region rfl ?_; simp only [RR, seval]
    refine awpN_intro fun b hb => ?_; simp only [RR, seval]
    exact hK _ _ ⟨b, rfl, rfl, upd_same _ _ _⟩
  rintro fr H ⟨b, f1, f2, hb⟩
  refine awp_seq ?_
  refine awp_cutK (fun fr H => ∃ t, fr 36 = .bool t ∧ (t = !(decide (level ≤ 24) && (decide (k = 4) || decide (u.length = 0)) && (decide (k = 4) || decide (k = 5) || decide (tt.length = 0)))) ∧ fr 1 = .int .i64 level ∧ fr 2 = .ptr 5 b 0 0 ∧ H b = some (.rows 5 [[.int .i64 k, .str s, .isl 5 (l.map Ex.row), .isl 5 (tt.map Sm.row), .isl 5 (u.map Sm.row)]])) (fun K hK => ?_) ?_
  · have d1 : decide ((0 : Int) < u.length) = !decide (u.length = 0) := by rw [Bool.eq_iff_iff]; simp only [decide_eq_true_eq, Bool.not_eq_true', decide_eq_false_iff_not]; omega
    have d2 : decide ((0 : Int) < tt.length) = !decide (tt.length = 0) := by rw [Bool.eq_iff_iff]; simp only [decide_eq_true_eq, Bool.not_eq_true', decide_eq_false_iff_not]; omega
    refine awp_region rfl ?_; simp only [RR, seval]
    simp only [f1, f2, hb, List.length_map, d1, d2, RR, seval]
    repeat' ((first | refine awpG_splitN (fun h => ?_) (fun h => ?_) | refine awpG_split (fun h => ?_) (fun h => ?_)) <;> simp only [h, f1, f2, hb, List.length_map, d1, d2, RR, seval])
    all_goals
      refine hK _ _ ⟨_, rfl, ?_, f1, f2, hb⟩
      clear hK
      simp_all <;> omega
  rintro fr H ⟨t, f36, ht, f1, f2, hb⟩
  refine awp_if _ f36 (fun hc => ?_) (fun hc => ?_)
  · have := bneg ht hc
    refine awp_seq_k fun K hK => ?_; refine awp_region rfl ?_; simp only [RR, seval]
    refine hK _ _ ?_; clear hK K
    refine awp_ret ?_; simp only [thenQ, blockQ, bodyQ, aresult, ares, argF, RR, seval]; refine Gives.pure ?_
    rw [hX, this]; rfl
  have h3 := bpos ht hc
  have hlev : level ≤ 24 := by simp only [Bool.and_eq_true, decide_eq_true_eq] at h3; exact h3.1.1
  rw [h3, Bool.true_and] at hX
  have ih2 := ih hlev
  have hexs2 := hexs (by omega)
  clear ht hc f36 t
  refine awp_skip ?_; simp only [thenQ, blockQ]
  refine awp_cutK (fun fr H => fr 5 = .bool (decide (k = 1 ∨ k = 2 ∨ k = 6)) ∧ fr 1 = .int .i64 level ∧ fr 2 = .ptr 5 b 0 0 ∧ H b = some (.rows 5 [[.int .i64 k, .str s, .isl 5 (l.map Ex.row), .isl 5 (tt.map Sm.row), .isl 5 (u.map Sm.row)]])) (fun K hK => ?_) ?_
  · refine awp_region rfl ?_; simp only [RR, seval]
    simp only [f1, f2, hb, RR, seval]
    repeat' ((first | refine awpG_splitN (fun h => ?_) (fun h => ?_) | refine awpG_split (fun h => ?_) (fun h => ?_)) <;> simp only [h, f1, f2, hb, RR, seval])
    all_goals
      refine hK _ _ ⟨?_, f1, f2, hb⟩
      clear hK
      simp [upd]
      simp_all
  rintro fr H ⟨f5, f1, f2, hb⟩
  refine awp_seq ?_
  refine awp_cutK (fun fr H => ∃ t, fr 63 = .bool t ∧ (t = !(if k = 1 ∨ k = 2 ∨ k = 6 then nameB s else decide (s = []))) ∧ fr 1 = .int .i64 level ∧ fr 2 = .ptr 5 b 0 0 ∧ H b = some (.rows 5 [[.int .i64 k, .str s, .isl 5 (l.map Ex.row), .isl 5 (tt.map Sm.row), .isl 5 (u.map Sm.row)]])) (fun K hK => ?_) ?_
  · by_cases hk : k = 1 ∨ k = 2 ∨ k = 6
    · have e1 : decide (k = 1 ∨ k = 2 ∨ k = 6) = true := decide_eq_true hk
      rw [e1] at f5
      by_cases hsn : s = []
      · have e2 : decide (s = []) = true := decide_eq_true hsn
        refine awp_region rfl ?_; simp only [RR, seval]
        simp only [f1, f2, f5, hb, e2, RR, seval]
        exact hK _ _ ⟨_, rfl, by rw [if_pos hk, hsn]; rfl, f1, f2, hb⟩
      · have e2 : decide (s = []) = false := decide_eq_false hsn
        refine awp_region rfl ?_; simp only [RR, seval]
        simp only [f1, f2, f5, hb, e2, RR, seval]
        refine awpC_pure' hname ?_; simp only [RR, seval]
        refine hK _ _ ⟨_, rfl, by rw [if_pos hk], f1, f2, hb⟩
    · have e1 : decide (k = 1 ∨ k = 2 ∨ k = 6) = false := decide_eq_false hk
      rw [e1] at f5
      by_cases hsn : s = []
      · have e2 : decide (s = []) = true := decide_eq_true hsn
        refine awp_region rfl ?_; simp only [RR, seval]
        simp only [f1, f2, f5, hb, e2, RR, seval]
        exact hK _ _ ⟨_, rfl, by rw [if_neg hk, e2]; rfl, f1, f2, hb⟩
      · have e2 : decide (s = []) = false := decide_eq_false hsn
        refine awp_region rfl ?_; simp only [RR, seval]
        simp only [f1, f2, f5, hb, e2, RR, seval]
        exact hK _ _ ⟨_, rfl, by rw [if_neg hk, e2]; rfl, f1, f2, hb⟩
  rintro fr H ⟨t, f63, ht, f1, f2, hb⟩
  refine awp_if _ f63 (fun hc => ?_) (fun hc => ?_)
  · have := bneg ht hc
    refine awp_seq_k fun K hK => ?_; refine awp_region rfl ?_; simp only [RR, seval]
    refine hK _ _ ?_; clear hK K
    refine awp_ret ?_; simp only [thenQ, blockQ, bodyQ, aresult, ares, argF, RR, seval]; refine Gives.pure ?_
    rw [hX, this]; rfl
  rw [bpos ht hc, Bool.true_and] at hX
  clear ht hc f63 t h3
  refine awp_skip ?_; simp only [thenQ, blockQ]
  refine awp_seq_k fun K hK => ?_; refine awp_region rfl ?_; simp only [RR, seval]
  simp only [f2, hb, List.length_map, RR, seval]
  refine hK _ _ ?_; clear hK K
  refine awp_seq_k fun K hK => ?_; refine awp_region rfl ?_; simp only [RR, seval]
  refine hK _ _ ?_; clear hK K
  have w1 : IntKind.wrap .i64 (level + 1) = level + 1 := IntWalk.i64_in _ (by omega)
  refine awp_cutK (fun fr H => fr 7 = .bool (fitS k l.length) ∧ fr 1 = .int .i64 level ∧ fr 2 = .ptr 5 b 0 0 ∧ H b = some (.rows 5 [[.int .i64 k, .str s, .isl 5 (l.map Ex.row), .isl 5 (tt.map Sm.row), .isl 5 (u.map Sm.row)]])) (fun K hK => ?_) ?_
  · have d1 : decide ((l.length : Int) = 1) = decide (l.length = 1) := by rw [Bool.eq_iff_iff]; simp only [decide_eq_true_eq]; omega
    have d2 : decide ((l.length : Int) = 2) = decide (l.length = 2) := by rw [Bool.eq_iff_iff]; simp only [decide_eq_true_eq]; omega
    have d6 : decide ((l.length : Int) ≤ 6) = decide (l.length ≤ 6) := by rw [Bool.eq_iff_iff]; simp only [decide_eq_true_eq]; omega
    have d7 : decide ((l.length : Int) ≤ 1) = decide (l.length ≤ 1) := by rw [Bool.eq_iff_iff]; simp only [decide_eq_true_eq]; omega
    by_cases k1 : k = 1
    · subst k1
      repeat' (first | (refine awp_seq_k fun K hK => ?_; refine awp_region rfl ?_; simp only [f2, hb, d1, RR, seval]; refine hK _ _ ?_; clear hK K) | (refine awp_seq ?_) | (refine awp_block ?_) | (refine awp_if true rfl (fun _ => ?_) (fun hc => by cases hc)) | (refine awp_if false rfl (fun hc => by cases hc) (fun _ => ?_)) | (refine awp_skip ?_; simp only [thenQ, blockQ]) | (refine awp_exit ?_; simp only [thenQ, blockQ, reduceIte, Nat.reduceEqDiff]) | (refine awp_region rfl ?_; simp only [f2, hb, d1, thenQ, blockQ, RR, seval]) | (refine awpG_splitN (fun h => ?_) (fun h => ?_) <;> simp only [h, f2, hb, d1, thenQ, blockQ, RR, seval]) | (refine awpG_split (fun h => ?_) (fun h => ?_) <;> simp only [h, f2, hb, d1, thenQ, blockQ, RR, seval]) | (refine awp_if _ rfl (fun h => ?_) (fun h => ?_)) | (refine awp_ret ?_; simp only [thenQ, blockQ, bodyQ, aresult, ares, argF, f2, hb, d1, RR, seval]; refine Gives.pure ?_))
      exact hK _ _ ⟨rfl, f1, f2, hb⟩
    by_cases k1 : k = 3
    · subst k1
      repeat' (first | (refine awp_seq_k fun K hK => ?_; refine awp_region rfl ?_; simp only [f2, hb, d1, RR, seval]; refine hK _ _ ?_; clear hK K) | (refine awp_seq ?_) | (refine awp_block ?_) | (refine awp_if true rfl (fun _ => ?_) (fun hc => by cases hc)) | (refine awp_if false rfl (fun hc => by cases hc) (fun _ => ?_)) | (refine awp_skip ?_; simp only [thenQ, blockQ]) | (refine awp_exit ?_; simp only [thenQ, blockQ, reduceIte, Nat.reduceEqDiff]) | (refine awp_region rfl ?_; simp only [f2, hb, d1, thenQ, blockQ, RR, seval]) | (refine awpG_splitN (fun h => ?_) (fun h => ?_) <;> simp only [h, f2, hb, d1, thenQ, blockQ, RR, seval]) | (refine awpG_split (fun h => ?_) (fun h => ?_) <;> simp only [h, f2, hb, d1, thenQ, blockQ, RR, seval]) | (refine awp_if _ rfl (fun h => ?_) (fun h => ?_)) | (refine awp_ret ?_; simp only [thenQ, blockQ, bodyQ, aresult, ares, argF, f2, hb, d1, RR, seval]; refine Gives.pure ?_))
      exact hK _ _ ⟨rfl, f1, f2, hb⟩
    by_cases k1 : k = 4
    · subst k1
      repeat' (first | (refine awp_seq_k fun K hK => ?_; refine awp_region rfl ?_; simp only [f2, hb, d1, RR, seval]; refine hK _ _ ?_; clear hK K) | (refine awp_seq ?_) | (refine awp_block ?_) | (refine awp_if true rfl (fun _ => ?_) (fun hc => by cases hc)) | (refine awp_if false rfl (fun hc => by cases hc) (fun _ => ?_)) | (refine awp_skip ?_; simp only [thenQ, blockQ]) | (refine awp_exit ?_; simp only [thenQ, blockQ, reduceIte, Nat.reduceEqDiff]) | (refine awp_region rfl ?_; simp only [f2, hb, d1, thenQ, blockQ, RR, seval]) | (refine awpG_splitN (fun h => ?_) (fun h => ?_) <;> simp only [h, f2, hb, d1, thenQ, blockQ, RR, seval]) | (refine awpG_split (fun h => ?_) (fun h => ?_) <;> simp only [h, f2, hb, d1, thenQ, blockQ, RR, seval]) | (refine awp_if _ rfl (fun h => ?_) (fun h => ?_)) | (refine awp_ret ?_; simp only [thenQ, blockQ, bodyQ, aresult, ares, argF, f2, hb, d1, RR, seval]; refine Gives.pure ?_))
      exact hK _ _ ⟨rfl, f1, f2, hb⟩
    by_cases k1 : k = 5
    · subst k1
      repeat' (first | (refine awp_seq_k fun K hK => ?_; refine awp_region rfl ?_; simp only [f2, hb, d1, RR, seval]; refine hK _ _ ?_; clear hK K) | (refine awp_seq ?_) | (refine awp_block ?_) | (refine awp_if true rfl (fun _ => ?_) (fun hc => by cases hc)) | (refine awp_if false rfl (fun hc => by cases hc) (fun _ => ?_)) | (refine awp_skip ?_; simp only [thenQ, blockQ]) | (refine awp_exit ?_; simp only [thenQ, blockQ, reduceIte, Nat.reduceEqDiff]) | (refine awp_region rfl ?_; simp only [f2, hb, d1, thenQ, blockQ, RR, seval]) | (refine awpG_splitN (fun h => ?_) (fun h => ?_) <;> simp only [h, f2, hb, d1, thenQ, blockQ, RR, seval]) | (refine awpG_split (fun h => ?_) (fun h => ?_) <;> simp only [h, f2, hb, d1, thenQ, blockQ, RR, seval]) | (refine awp_if _ rfl (fun h => ?_) (fun h => ?_)) | (refine awp_ret ?_; simp only [thenQ, blockQ, bodyQ, aresult, ares, argF, f2, hb, d1, RR, seval]; refine Gives.pure ?_))
      exact hK _ _ ⟨rfl, f1, f2, hb⟩
    by_cases k1 : k = 2
    · subst k1
      repeat' (first | (refine awp_seq_k fun K hK => ?_; refine awp_region rfl ?_; simp only [f2, hb, d2, RR, seval]; refine hK _ _ ?_; clear hK K) | (refine awp_seq ?_) | (refine awp_block ?_) | (refine awp_if true rfl (fun _ => ?_) (fun hc => by cases hc)) | (refine awp_if false rfl (fun hc => by cases hc) (fun _ => ?_)) | (refine awp_skip ?_; simp only [thenQ, blockQ]) | (refine awp_exit ?_; simp only [thenQ, blockQ, reduceIte, Nat.reduceEqDiff]) | (refine awp_region rfl ?_; simp only [f2, hb, d2, thenQ, blockQ, RR, seval]) | (refine awpG_splitN (fun h => ?_) (fun h => ?_) <;> simp only [h, f2, hb, d2, thenQ, blockQ, RR, seval]) | (refine awpG_split (fun h => ?_) (fun h => ?_) <;> simp only [h, f2, hb, d2, thenQ, blockQ, RR, seval]) | (refine awp_if _ rfl (fun h => ?_) (fun h => ?_)) | (refine awp_ret ?_; simp only [thenQ, blockQ, bodyQ, aresult, ares, argF, f2, hb, d2, RR, seval]; refine Gives.pure ?_))
      exact hK _ _ ⟨rfl, f1, f2, hb⟩
    by_cases k1 : k = 6
    · subst k1
      repeat' (first | (refine awp_seq_k fun K hK => ?_; refine awp_region rfl ?_; simp only [f2, hb, d6, RR, seval]; refine hK _ _ ?_; clear hK K) | (refine awp_seq ?_) | (refine awp_block ?_) | (refine awp_if true rfl (fun _ => ?_) (fun hc => by cases hc)) | (refine awp_if false rfl (fun hc => by cases hc) (fun _ => ?_)) | (refine awp_skip ?_; simp only [thenQ, blockQ]) | (refine awp_exit ?_; simp only [thenQ, blockQ, reduceIte, Nat.reduceEqDiff]) | (refine awp_region rfl ?_; simp only [f2, hb, d6, thenQ, blockQ, RR, seval]) | (refine awpG_splitN (fun h => ?_) (fun h => ?_) <;> simp only [h, f2, hb, d6, thenQ, blockQ, RR, seval]) | (refine awpG_split (fun h => ?_) (fun h => ?_) <;> simp only [h, f2, hb, d6, thenQ, blockQ, RR, seval]) | (refine awp_if _ rfl (fun h => ?_) (fun h => ?_)) | (refine awp_ret ?_; simp only [thenQ, blockQ, bodyQ, aresult, ares, argF, f2, hb, d6, RR, seval]; refine Gives.pure ?_))
      exact hK _ _ ⟨rfl, f1, f2, hb⟩
    by_cases k1 : k = 7
    · subst k1
      repeat' (first | (refine awp_seq_k fun K hK => ?_; refine awp_region rfl ?_; simp only [f2, hb, d7, RR, seval]; refine hK _ _ ?_; clear hK K) | (refine awp_seq ?_) | (refine awp_block ?_) | (refine awp_if true rfl (fun _ => ?_) (fun hc => by cases hc)) | (refine awp_if false rfl (fun hc => by cases hc) (fun _ => ?_)) | (refine awp_skip ?_; simp only [thenQ, blockQ]) | (refine awp_exit ?_; simp only [thenQ, blockQ, reduceIte, Nat.reduceEqDiff]) | (refine awp_region rfl ?_; simp only [f2, hb, d7, thenQ, blockQ, RR, seval]) | (refine awpG_splitN (fun h => ?_) (fun h => ?_) <;> simp only [h, f2, hb, d7, thenQ, blockQ, RR, seval]) | (refine awpG_split (fun h => ?_) (fun h => ?_) <;> simp only [h, f2, hb, d7, thenQ, blockQ, RR, seval]) | (refine awp_if _ rfl (fun h => ?_) (fun h => ?_)) | (refine awp_ret ?_; simp only [thenQ, blockQ, bodyQ, aresult, ares, argF, f2, hb, d7, RR, seval]; refine Gives.pure ?_))
      exact hK _ _ ⟨rfl, f1, f2, hb⟩
    have g1 : decide (k = 1) = false := decide_eq_false (by assumption)
    have g2 : decide (k = 2) = false := decide_eq_false (by assumption)
    have g3 : decide (k = 3) = false := decide_eq_false (by assumption)
    have g4 : decide (k = 4) = false := decide_eq_false (by assumption)
    have g5 : decide (k = 5) = false := decide_eq_false (by assumption)
    have g6 : decide (k = 6) = false := decide_eq_false (by assumption)
    have g7 : decide (k = 7) = false := decide_eq_false (by assumption)
    repeat' (first | (refine awp_seq_k fun K hK => ?_; refine awp_region rfl ?_; simp only [f2, hb, g1, g2, g3, g4, g5, g6, g7, RR, seval]; refine hK _ _ ?_; clear hK K) | (refine awp_seq ?_) | (refine awp_block ?_) | (refine awp_if true rfl (fun _ => ?_) (fun hc => by cases hc)) | (refine awp_if false rfl (fun hc => by cases hc) (fun _ => ?_)) | (refine awp_skip ?_; simp only [thenQ, blockQ]) | (refine awp_exit ?_; simp only [thenQ, blockQ, reduceIte, Nat.reduceEqDiff]) | (refine awp_region rfl ?_; simp only [f2, hb, g1, g2, g3, g4, g5, g6, g7, thenQ, blockQ, RR, seval]) | (refine awpG_splitN (fun h => ?_) (fun h => ?_) <;> simp only [h, f2, hb, g1, g2, g3, g4, g5, g6, g7, thenQ, blockQ, RR, seval]) | (refine awpG_split (fun h => ?_) (fun h => ?_) <;> simp only [h, f2, hb, g1, g2, g3, g4, g5, g6, g7, thenQ, blockQ, RR, seval]) | (refine awp_if _ rfl (fun h => ?_) (fun h => ?_)) | (refine awp_ret ?_; simp only [thenQ, blockQ, bodyQ, aresult, ares, argF, f2, hb, g1, g2, g3, g4, g5, g6, g7, RR, seval]; refine Gives.pure ?_))
    exact hK _ _ ⟨by simp [fitS, *, upd], f1, f2, hb⟩
  rintro fr H ⟨f7, f1, f2, hb⟩
  subst hX
  cases hf : fitS k l.length with
  | false =>
    rw [hf] at f7
    repeat' (first | (refine awp_seq_k fun K hK => ?_; refine awp_region rfl ?_; simp only [f7, RR, seval]; refine hK _ _ ?_; clear hK K) | (refine awp_seq ?_) | (refine awp_block ?_) | (refine awp_if true rfl (fun _ => ?_) (fun hc => by cases hc)) | (refine awp_if false rfl (fun hc => by cases hc) (fun _ => ?_)) | (refine awp_skip ?_; simp only [thenQ, blockQ]) | (refine awp_exit ?_; simp only [thenQ, blockQ, reduceIte, Nat.reduceEqDiff]) | (refine awp_region rfl ?_; simp only [f7, thenQ, blockQ, RR, seval]) | (refine awpG_splitN (fun h => ?_) (fun h => ?_) <;> simp only [h, f7, thenQ, blockQ, RR, seval]) | (refine awpG_split (fun h => ?_) (fun h => ?_) <;> simp only [h, f7, thenQ, blockQ, RR, seval]) | (refine awp_if _ rfl (fun h => ?_) (fun h => ?_)) | (refine awp_ret ?_; simp only [thenQ, blockQ, bodyQ, aresult, ares, argF, f7, RR, seval]; refine Gives.pure ?_))
    rfl
  | true =>
    rw [hf] at f7
    cases hx : rightE l (level + 1) with
    | false =>
      rw [hx] at hexs2
      repeat' (first | (refine awp_seq_k fun K hK => ?_; refine awp_region rfl ?_; simp only [f1, f2, f7, hb, w1, RR, seval]; refine hK _ _ ?_; clear hK K) | (refine awp_seq ?_) | (refine awp_block ?_) | (refine awp_if true rfl (fun _ => ?_) (fun hc => by cases hc)) | (refine awp_if false rfl (fun hc => by cases hc) (fun _ => ?_)) | (refine awp_skip ?_; simp only [thenQ, blockQ]) | (refine awp_exit ?_; simp only [thenQ, blockQ, reduceIte, Nat.reduceEqDiff]) | (refine awp_region rfl ?_; simp only [f1, f2, f7, hb, w1, thenQ, blockQ, RR, seval]) | (refine awpG_splitN (fun h => ?_) (fun h => ?_) <;> simp only [h, f1, f2, f7, hb, w1, thenQ, blockQ, RR, seval]) | (refine awpG_split (fun h => ?_) (fun h => ?_) <;> simp only [h, f1, f2, f7, hb, w1, thenQ, blockQ, RR, seval]) | (refine awp_if _ rfl (fun h => ?_) (fun h => ?_)) | (refine awp_ret ?_; simp only [thenQ, blockQ, bodyQ, aresult, ares, argF, f1, f2, f7, hb, w1, RR, seval]; refine Gives.pure ?_) | (refine awpC_pure' (hexs2) ?_; simp only [f1, f2, f7, hb, w1, thenQ, blockQ, RR, seval]))
      rfl
    | true =>
      rw [hx] at hexs2
      have c1 := ih2 tt (.inl rfl)
      have c2 := ih2 u (.inr rfl)
      refine awp_seq_k fun K hK => ?_; refine awp_region rfl ?_; simp only [RR, seval]
      simp only [f1, f2, f7, hb, w1, RR, seval]
      refine awpC_pure' hexs2 ?_; simp only [RR, seval]
      simp only [f1, f2, f7, hb, w1, RR, seval]
      refine awpC_pure' c1 ?_; simp only [RR, seval]
      cases ht : rightS tt (level + 1) with
      | false =>
        simp only [RR, seval]
        refine hK _ _ ?_; clear hK K
        refine awp_ret ?_; simp only [thenQ, blockQ, bodyQ, aresult, ares, argF, RR, seval]; refine Gives.pure ?_
        rw [ht]; rfl
      | true =>
        simp only [f1, f2, f7, hb, w1, RR, seval]
        refine awpC_pure' c2 ?_; simp only [RR, seval]
        refine hK _ _ ?_; clear hK K
        refine awp_ret ?_; simp only [thenQ, blockQ, bodyQ, aresult, ares, argF, RR, seval]; refine Gives.pure ?_
        rw [ht]; rfl
theorem RightStmts_con (n : Nat) : ∀ (l : List Sm) (level : Int), szS l = n → okS l → -1000000 ≤ level → level ≤ 1000000 → PCon env 32 [.isl 5 (l.map Sm.row), .int .i64 level] (.bool (rightS l level)) := by
  induction n using Nat.strongRecOn with
  | _ n ih =>
    intro l level hn hok h1 h2
    have hfit : l.length ≤ 9223372036854775807 := hok.fit
    refine con_of 19 [.tmp 4] Tryd.func32 rfl rfl rfl rfl ?_
    refine awp_seq_k fun K hK => ?_; refine awp_region rfl ?_; simp only [RR, seval]
    refine hK _ _ ?_; clear hK K
    refine awp_cutK (fun fr H => rightS l level = true) (fun K hK => ?_) ?_
    · refine awp_seq_k fun K hK => ?_; refine awp_region rfl ?_; simp only [RR, seval]
      refine hK _ _ ?_; clear hK K
      refine awp_block ?_
      refine awp_loopK (fun mm fr H => ∃ k : Nat, mm = l.length - k ∧ k ≤ l.length ∧ fr 5 = .int .i64 k ∧ fr 0 = .isl 5 (l.map Sm.row) ∧ fr 1 = .int .i64 level ∧ rightS l level = rightS (l.drop k) level) (l.length) ⟨0, rfl, Nat.zero_le _, rfl, rfl, rfl, by rw [List.drop_zero]⟩ ?_
      rintro mm fr H ⟨k, rfl, hkk, hik, h0, f1, hall⟩ K2 hK2
      refine awp_seq ?_
      refine awp_seq_k fun K hK => ?_; refine awp_region rfl ?_; simp only [RR, seval]
      simp only [hik, h0,List.length_map, RR, seval]
      refine hK _ _ ?_; clear hK K
      refine awp_if _ rfl (fun hc => ?_) (fun hc => ?_)
      · have hltk : k < l.length := by have := of_decide_eq_true hc; omega
        clear hc
        refine awp_skip ?_; simp only [thenQ, blockQ]
        refine awp_seq ?_
        refine awp_block ?_
        have hg := getRow Sm.row (List.getElem?_eq_getElem hltk)
        have hmem := List.getElem_mem hltk
        have he := hok.all _ hmem
        have hsz := szS_mem hmem
        rw [List.drop_eq_getElem_cons hltk, rightS_cons] at hall
        generalize l[k] = e at hg hall he hsz
        have hse := e.sz_eq
        have hl5 := e.row_len
        have hcon := RightStmt_step e he level h1 h2 (fun hle x hx => by
          rcases hx with rfl | rfl
          · exact ih _ (by omega) e.thn (level + 1) rfl he.thn (by omega) (by omega)
          · exact ih _ (by omega) e.els (level + 1) rfl he.els (by omega) (by omega))
        refine awp_seq_k fun K hK => ?_; refine awp_region rfl ?_; simp only [RR, seval]
        simp only [h0, f1, hik, hg, hl5, RR, seval]
        rw [List.take_of_length_le (by omega)]
        refine awpC_pure' hcon ?_; simp only [RR, seval]
        refine hK _ _ ?_; clear hK K
        refine awp_if (!rightM e level) rfl (fun hc => ?_) (fun hc => ?_)
        · refine awp_seq_k fun K hK => ?_; refine awp_region rfl ?_; simp only [RR, seval]
          refine hK _ _ ?_; clear hK K
          refine awp_ret ?_; simp only [thenQ, blockQ, bodyQ, aresult, ares, argF, RR, seval]; refine Gives.pure ?_
          rw [hall, show rightM e level = false by simpa using hc]; rfl
        · refine awp_skip ?_; simp only [thenQ, blockQ]
          rw [show rightM e level = true by simpa using hc, Bool.true_and] at hall
          refine awp_region rfl ?_; simp only [RR, seval]
          simp only [hik, thenQ, blockQ, RR, seval]
          rw [IntWalk.i64_in _ (by omega)]
          refine hK2 (l.length - (k + 1)) _ _ (by omega) ⟨k + 1, rfl, by omega, rfl, h0, f1, hall⟩
      · refine awp_exit ?_; simp only [thenQ, blockQ, reduceIte, Nat.reduceEqDiff]
        have hknk : k = l.length := by have := of_decide_eq_false hc; omega
        clear hc
        subst hknk
        rw [List.drop_length, rightS_nil] at hall
        exact hK _ _ hall
    · rintro fr H h0
      refine awp_seq_k fun K hK => ?_; refine awp_region rfl ?_; simp only [RR, seval]
      refine hK _ _ ?_; clear hK K
      refine awp_ret ?_; simp only [thenQ, blockQ, bodyQ, aresult, ares, argF, RR, seval]; refine Gives.pure ?_
      rw [h0]
end Go.Proofs.YtgcncdjnipfolaaDoor

namespace Go.Proofs.YtgcncdjnipfolaaDoor
open Go.Al
set_option maxHeartbeats 4000000 in
theorem Right_con (p : Pg) (hp : p.ok) (hsize : ∀ f ∈ p.funs, f.params.length ≤ 1100000) : PCon env 13 [p.av] (.bool (rightP p)) := by
  have fv : p.vars.length ≤ 9223372036854775807 := hp.vars.fit
  have fa : p.arrs.length ≤ 9223372036854775807 := hp.afit
  have ff : p.funs.length ≤ 9223372036854775807 := hp.ffit
  have hnv := names14_con p.vars hp.vars
  obtain ⟨vs, aa, fs⟩ := p
  simp only at fv fa ff hnv
  simp only [Pg.av, Pg.row]
  refine con_of 95 [.tmp 2] Tryd.func13 rfl rfl rfl rfl ?_
  refine awp_cutK (fun fr H => ∃ b, fr 1 = .ptr 3 b 0 0 ∧ H b = some (.rows 3 [[.isl 1 (vs.map strRow), .isl 2 (aa.map Ar.row), .isl 5 (fs.map Fu.row)]])) (fun K hK => ?_) ?_
  · refine awp_region rfl ?_; simp only [RR, seval]
    refine awpN_intro fun b hb => ?_; simp only [RR, seval]
    exact hK _ _ ⟨b, rfl, upd_same _ _ _⟩
  rintro fr H ⟨b, h2, hb⟩
  have hR : rightP ⟨vs, aa, fs⟩ = ((vs.all nameB && decide (1 ≤ fs.length) && decide (fs.length ≤ 64)) && aa.all rightA && fs.all rightF) := rfl
  generalize rightP ⟨vs, aa, fs⟩ = res at hR ⊢
  refine awp_seq ?_
  refine awp_cutK (fun fr H => ∃ t, fr 21 = .bool t ∧ (t = !(vs.all nameB && decide (1 ≤ fs.length) && decide (fs.length ≤ 64))) ∧ fr 1 = .ptr 3 b 0 0 ∧ H b = some (.rows 3 [[.isl 1 (vs.map strRow), .isl 2 (aa.map Ar.row), .isl 5 (fs.map Fu.row)]])) (fun K hK => ?_) ?_
  · have d1 : decide ((fs.length : Int) < 1) = !decide (1 ≤ fs.length) := by rw [Bool.eq_iff_iff]; simp only [decide_eq_true_eq, Bool.not_eq_true', decide_eq_false_iff_not]; omega
    have d2 : decide ((64 : Int) < fs.length) = !decide (fs.length ≤ 64) := by rw [Bool.eq_iff_iff]; simp only [decide_eq_true_eq, Bool.not_eq_true', decide_eq_false_iff_not]; omega
    refine awp_region rfl ?_; simp only [RR, seval]
    simp only [h2, hb, RR, seval]
    refine awpC_pure' hnv ?_; simp only [RR, seval]
    cases hv : vs.all nameB with
    | false =>
      simp only [h2, hb, RR, seval]
      exact hK _ _ ⟨_, rfl, by rw [hv]; rfl, h2, hb⟩
    | true =>
      simp only [h2, hb, List.length_map, d1, d2, RR, seval]
      cases h1 : decide (1 ≤ fs.length) with
      | false =>
        simp only [h2, hb, List.length_map, d1, d2, RR, seval]
        exact hK _ _ ⟨_, rfl, by rw [hv, h1]; rfl, h2, hb⟩
      | true =>
        simp only [h2, hb, List.length_map, d1, d2, RR, seval]
        exact hK _ _ ⟨_, rfl, by rw [hv, h1]; rfl, h2, hb⟩
  rintro fr H ⟨t, h21, ht, h2, hb⟩
  refine awp_if _ h21 (fun hc => ?_) (fun hc => ?_)
  · have := bneg ht hc
    refine awp_seq_k fun K hK => ?_; refine awp_region rfl ?_; simp only [RR, seval]
    refine hK _ _ ?_; clear hK K
    refine awp_ret ?_; simp only [thenQ, blockQ, bodyQ, aresult, ares, argF, RR, seval]; refine Gives.pure ?_
    rw [hR, this]; rfl
  have h3 := bpos ht hc
  rw [h3, Bool.true_and] at hR
  clear ht hc h21 t
  refine awp_skip ?_; simp only [thenQ, blockQ]
  refine awp_cutK (fun fr H => aa.all rightA = true ∧ fr 1 = .ptr 3 b 0 0 ∧ H b = some (.rows 3 [[.isl 1 (vs.map strRow), .isl 2 (aa.map Ar.row), .isl 5 (fs.map Fu.row)]])) (fun K hK => ?_) ?_
  · refine awp_seq_k fun K hK => ?_; refine awp_region rfl ?_; simp only [RR, seval]
    refine hK _ _ ?_; clear hK K
    refine awp_block ?_
    refine awp_loopK (fun mm fr H => ∃ k : Nat, mm = aa.length - k ∧ k ≤ aa.length ∧ fr 3 = .int .i64 k ∧ aa.all rightA = (aa.drop k).all rightA ∧ fr 1 = .ptr 3 b 0 0 ∧ H b = some (.rows 3 [[.isl 1 (vs.map strRow), .isl 2 (aa.map Ar.row), .isl 5 (fs.map Fu.row)]])) (aa.length) ⟨0, rfl, Nat.zero_le _, rfl, by rw [List.drop_zero], h2, hb⟩ ?_
    rintro mm fr H ⟨k, rfl, hkk, hik, hall, h2, hb⟩ K2 hK2
    refine awp_seq ?_
    refine awp_seq_k fun K hK => ?_; refine awp_region rfl ?_; simp only [RR, seval]
    simp only [hik, h2, hb,List.length_map, RR, seval]
    refine hK _ _ ?_; clear hK K
    refine awp_if _ rfl (fun hc => ?_) (fun hc => ?_)
    · have hltk : k < aa.length := by have := of_decide_eq_true hc; omega
      clear hc
      refine awp_skip ?_; simp only [thenQ, blockQ]
      refine awp_seq ?_
      refine awp_block ?_
      have hg := getA (List.getElem?_eq_getElem hltk)
      have hoka := hp.arrs _ (List.getElem_mem hltk)
      rw [List.drop_eq_getElem_cons hltk, List.all_cons] at hall
      generalize aa[k] = a at hg hall hoka
      have hcon := IsName_con a.name hoka.1
      have d1 : decide (a.size < 1) = !decide (1 ≤ a.size) := by rw [Bool.eq_iff_iff]; simp only [decide_eq_true_eq, Bool.not_eq_true', decide_eq_false_iff_not]; omega
      have d2 : decide (4096 < a.size) = !decide (a.size ≤ 4096) := by rw [Bool.eq_iff_iff]; simp only [decide_eq_true_eq, Bool.not_eq_true', decide_eq_false_iff_not]; omega
      refine awp_cutK (fun fr H => fr 54 = .bool (!rightA a) ∧ fr 3 = .int .i64 k ∧ fr 1 = .ptr 3 b 0 0 ∧ H b = some (.rows 3 [[.isl 1 (vs.map strRow), .isl 2 (aa.map Ar.row), .isl 5 (fs.map Fu.row)]])) (fun K hK => ?_) ?_
      · refine awp_region rfl ?_; simp only [RR, seval]
        simp only [h2, hb, hik, hg, RR, seval]
        refine awpC_pure' hcon ?_; simp only [RR, seval]
        cases hv : nameB a.name with
        | false =>
          simp only [h2, hb, hik, hg, RR, seval]
          exact hK _ _ ⟨by simp only [rightA, hv]; rfl, hik, h2, hb⟩
        | true =>
          simp only [h2, hb, hik, hg, d1, d2, RR, seval]
          cases h1 : decide (1 ≤ a.size) with
          | false =>
            simp only [h2, hb, hik, hg, d1, d2, RR, seval]
            exact hK _ _ ⟨by simp only [rightA, hv, h1]; rfl, hik, h2, hb⟩
          | true =>
            simp only [h2, hb, hik, hg, d1, d2, RR, seval]
            exact hK _ _ ⟨by simp only [rightA, hv, h1]; rfl, hik, h2, hb⟩
      · rintro fr H ⟨h54, hik, h2, hb⟩
        refine awp_if (!rightA a) h54 (fun hc => ?_) (fun hc => ?_)
        · refine awp_seq_k fun K hK => ?_; refine awp_region rfl ?_; simp only [RR, seval]
          refine hK _ _ ?_; clear hK K
          refine awp_ret ?_; simp only [thenQ, blockQ, bodyQ, aresult, ares, argF, RR, seval]; refine Gives.pure ?_
          rw [hR, hall, show rightA a = false by simpa using hc]; rfl
        · refine awp_skip ?_; simp only [thenQ, blockQ]
          rw [show rightA a = true by simpa using hc, Bool.true_and] at hall
          refine awp_region rfl ?_; simp only [RR, seval]
          simp only [hik, thenQ, blockQ, RR, seval]
          rw [IntWalk.i64_in _ (by omega)]
          refine hK2 (aa.length - (k + 1)) _ _ (by omega) ⟨k + 1, rfl, by omega, rfl, hall, h2, hb⟩
    · refine awp_exit ?_; simp only [thenQ, blockQ, reduceIte, Nat.reduceEqDiff]
      have hknk : k = aa.length := by have := of_decide_eq_false hc; omega
      clear hc
      subst hknk
      rw [List.drop_length] at hall
      exact hK _ _ ⟨hall, h2, hb⟩
  rintro fr H ⟨hall, h2, hb⟩
  rw [hall, Bool.true_and] at hR
  refine awp_cutK (fun fr H => fs.all rightF = true) (fun K hK => ?_) ?_
  · refine awp_seq_k fun K hK => ?_; refine awp_region rfl ?_; simp only [RR, seval]
    refine hK _ _ ?_; clear hK K
    refine awp_block ?_
    refine awp_loopK (fun mm fr H => ∃ k : Nat, mm = fs.length - k ∧ k ≤ fs.length ∧ fr 4 = .int .i64 k ∧ fs.all rightF = (fs.drop k).all rightF ∧ fr 1 = .ptr 3 b 0 0 ∧ H b = some (.rows 3 [[.isl 1 (vs.map strRow), .isl 2 (aa.map Ar.row), .isl 5 (fs.map Fu.row)]])) (fs.length) ⟨0, rfl, Nat.zero_le _, rfl, by rw [List.drop_zero], h2, hb⟩ ?_
    rintro mm fr H ⟨k, rfl, hkk, hik, hall2, h2, hb⟩ K2 hK2
    refine awp_seq ?_
    refine awp_seq_k fun K hK => ?_; refine awp_region rfl ?_; simp only [RR, seval]
    simp only [hik, h2, hb,List.length_map, RR, seval]
    refine hK _ _ ?_; clear hK K
    refine awp_if _ rfl (fun hc => ?_) (fun hc => ?_)
    · have hltk : k < fs.length := by have := of_decide_eq_true hc; omega
      clear hc
      refine awp_skip ?_; simp only [thenQ, blockQ]
      refine awp_seq ?_
      refine awp_block ?_
      have hg := getF (List.getElem?_eq_getElem hltk)
      have hokf := hp.funs _ (List.getElem_mem hltk)
      have hsz := hsize _ (List.getElem_mem hltk)
      rw [List.drop_eq_getElem_cons hltk, List.all_cons] at hall2
      generalize fs[k] = f at hg hall2 hokf hsz
      refine awp_seq_k fun K hK => ?_; refine awp_region rfl ?_; simp only [RR, seval]
      simp only [h2, hb, hik, hg, RR, seval]
      refine awpN_intro fun b1 hb1 => ?_
      simp only [RR, seval]
      refine hK _ _ ?_; clear hK K
      have hne : b ≠ b1 := fun e => by rw [e, hb1] at hb; cases hb
      have hH1 : (upd (upd H b1 (some (.rows 5 [[.str [], .nsl, .nsl, .bool false, .nsl]]))) b1 (some (.rows 5 [[.str f.name, .isl 1 (f.params.map strRow), .isl 1 (f.locs.map strRow), .bool f.word, .isl 5 (f.body.map Sm.row)]]))) b1 = some (.rows 5 [[.str f.name, .isl 1 (f.params.map strRow), .isl 1 (f.locs.map strRow), .bool f.word, .isl 5 (f.body.map Sm.row)]]) := upd_same _ _ _
      have hHb : (upd (upd H b1 (some (.rows 5 [[.str [], .nsl, .nsl, .bool false, .nsl]]))) b1 (some (.rows 5 [[.str f.name, .isl 1 (f.params.map strRow), .isl 1 (f.locs.map strRow), .bool f.word, .isl 5 (f.body.map Sm.row)]]))) b = some (.rows 3 [[.isl 1 (vs.map strRow), .isl 2 (aa.map Ar.row), .isl 5 (fs.map Fu.row)]]) := by simp only [upd, if_neg hne]; exact hb
      generalize (upd (upd H b1 (some (.rows 5 [[.str [], .nsl, .nsl, .bool false, .nsl]]))) b1 (some (.rows 5 [[.str f.name, .isl 1 (f.params.map strRow), .isl 1 (f.locs.map strRow), .bool f.word, .isl 5 (f.body.map Sm.row)]]))) = H1 at hH1 hHb ⊢
      have c0 := IsName_con f.name hokf.name
      have c1 := names14_con f.params hokf.params
      have c2 := names14_con f.locs hokf.locs
      have c3 := RightStmts_con _ f.body 1 rfl hokf.body (by omega) (by omega)
      have d1 : decide ((6 : Int) < f.params.length) = !decide (f.params.length ≤ 6) := by rw [Bool.eq_iff_iff]; simp only [decide_eq_true_eq, Bool.not_eq_true', decide_eq_false_iff_not]; omega
      refine awp_cutK (fun fr H => fr 94 = .bool (!rightF f) ∧ fr 4 = .int .i64 k ∧ fr 1 = .ptr 3 b 0 0 ∧ H b = some (.rows 3 [[.isl 1 (vs.map strRow), .isl 2 (aa.map Ar.row), .isl 5 (fs.map Fu.row)]])) (fun K hK => ?_) ?_
      · refine awp_region rfl ?_; simp only [RR, seval]
        simp only [hH1, RR, seval]
        refine awpC_pure' c0 ?_; simp only [RR, seval]
        cases v0 : nameB f.name with
        | false =>
          simp only [RR, seval]
          exact hK _ _ ⟨by simp only [rightF, v0]; rfl, hik, h2, hHb⟩
        | true =>
          simp only [hH1, List.length_map, d1, RR, seval]
          cases v1 : decide (f.params.length ≤ 6) with
          | false =>
            simp only [RR, seval]
            exact hK _ _ ⟨by simp only [rightF, v0, v1]; rfl, hik, h2, hHb⟩
          | true =>
            simp only [hH1, RR, seval]
            refine awpC_pure' c1 ?_; simp only [RR, seval]
            cases v2 : f.params.all nameB with
            | false =>
              simp only [RR, seval]
              exact hK _ _ ⟨by simp only [rightF, v0, v1, v2]; rfl, hik, h2, hHb⟩
            | true =>
              simp only [hH1, RR, seval]
              refine awpC_pure' c2 ?_; simp only [RR, seval]
              cases v3 : f.locs.all nameB with
              | false =>
                simp only [RR, seval]
                exact hK _ _ ⟨by simp only [rightF, v0, v1, v2, v3]; rfl, hik, h2, hHb⟩
              | true =>
                simp only [hH1, RR, seval]
                refine awpC_pure' c3 ?_; simp only [RR, seval]
                exact hK _ _ ⟨by simp only [rightF, v0, v1, v2, v3]; rfl, hik, h2, hHb⟩
      · rintro fr H ⟨h94, hik, h2, hb⟩
        refine awp_if (!rightF f) h94 (fun hc => ?_) (fun hc => ?_)
        · refine awp_seq_k fun K hK => ?_; refine awp_region rfl ?_; simp only [RR, seval]
          refine hK _ _ ?_; clear hK K
          refine awp_ret ?_; simp only [thenQ, blockQ, bodyQ, aresult, ares, argF, RR, seval]; refine Gives.pure ?_
          rw [hR, hall2, show rightF f = false by simpa using hc]; rfl
        · refine awp_skip ?_; simp only [thenQ, blockQ]
          rw [show rightF f = true by simpa using hc, Bool.true_and] at hall2
          refine awp_region rfl ?_; simp only [RR, seval]
          simp only [hik, thenQ, blockQ, RR, seval]
          rw [IntWalk.i64_in _ (by omega)]
          refine hK2 (fs.length - (k + 1)) _ _ (by omega) ⟨k + 1, rfl, by omega, rfl, hall2, h2, hb⟩
    · refine awp_exit ?_; simp only [thenQ, blockQ, reduceIte, Nat.reduceEqDiff]
      have hknk : k = fs.length := by have := of_decide_eq_false hc; omega
      clear hc
      subst hknk
      rw [List.drop_length] at hall2
      exact hK _ _ hall2
  rintro fr H h0
  refine awp_seq_k fun K hK => ?_; refine awp_region rfl ?_; simp only [RR, seval]
  refine hK _ _ ?_; clear hK K
  refine awp_ret ?_; simp only [thenQ, blockQ, bodyQ, aresult, ares, argF, RR, seval]; refine Gives.pure ?_
  rw [hR, h0]
end Go.Proofs.YtgcncdjnipfolaaDoor
