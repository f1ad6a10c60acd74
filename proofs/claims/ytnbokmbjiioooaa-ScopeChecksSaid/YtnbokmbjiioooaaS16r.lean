/- Chapter 16: the law's own examples. -/
import Derived.Test.YtnbokmbjiioooaaS16q
import Derived.Test.YtnbokmbjiioooaaAlZa
import Derived.Test.YtnbokmbjiioooaaF14e
set_option linter.unusedSimpArgs false
set_option linter.unusedVariables false
namespace Go.Proofs.Ytnbokmbjiioooaa
open Go.Al
theorem num_con (n : Int) : PCon env 19 [.int .u32 n] (.agg (Ex.mk 1 0 n [] []).row) := by
  refine pcon_weak (v := .agg [.int .i64 1, .int .i64 0, .int .u32 n, .str [], .nsl]) ?_ ?_
  · refine con_of 5 [.cell 2 47] Try.func19 rfl rfl rfl rfl ?_
    refine awp_seq_k fun K hK => ?_; refine awp_region rfl ?_; simp only [AL, TY, aq, aint, astr, aWant, isPtr, abnd, ahi, alo, aload, rd, newObj, alit, aparts, astore, amapset, cellsOf, ev, avOf, av1, putF, upd, argF, TK.agg, aapp, asrc, one, aq.abuild, Nat.reduceEqDiff, Nat.reduceAdd, Nat.reduceLT, Nat.reduceLeDiff, Nat.reduceMul, Nat.reduceSub, reduceIte, reduceCtorEq, Int.reduceLE, Int.reduceToNat, Int.reduceLT, Int.reduceEq, Int.reduceAdd, Int.reduceSub, Int.reduceMul, Int.reduceNeg]
    refine awpN_intro fun b hb => ?_; simp only [AL, TY, aq, aint, astr, aWant, isPtr, abnd, ahi, alo, aload, rd, newObj, alit, aparts, astore, amapset, cellsOf, ev, avOf, av1, putF, upd, argF, TK.agg, aapp, asrc, one, aq.abuild, Nat.reduceEqDiff, Nat.reduceAdd, Nat.reduceLT, Nat.reduceLeDiff, Nat.reduceMul, Nat.reduceSub, reduceIte, reduceCtorEq, Int.reduceLE, Int.reduceToNat, Int.reduceLT, Int.reduceEq, Int.reduceAdd, Int.reduceSub, Int.reduceMul, Int.reduceNeg]
    refine hK _ _ ?_; clear hK K
    refine awp_seq_k fun K hK => ?_; refine awp_region rfl ?_; simp only [AL, TY, aq, aint, astr, aWant, isPtr, abnd, ahi, alo, aload, rd, newObj, alit, aparts, astore, amapset, cellsOf, ev, avOf, av1, putF, upd, argF, TK.agg, aapp, asrc, one, aq.abuild, Nat.reduceEqDiff, Nat.reduceAdd, Nat.reduceLT, Nat.reduceLeDiff, Nat.reduceMul, Nat.reduceSub, reduceIte, reduceCtorEq, Int.reduceLE, Int.reduceToNat, Int.reduceLT, Int.reduceEq, Int.reduceAdd, Int.reduceSub, Int.reduceMul, Int.reduceNeg]
    refine hK _ _ ?_; clear hK K
    refine awp_ret ?_
    simp only [thenQ, blockQ, bodyQ, aresult, ares, argF, upd_same, AL, TY, aq, aint, astr, aWant, isPtr, abnd, ahi, alo, aload, rd, newObj, alit, aparts, astore, amapset, cellsOf, ev, avOf, av1, putF, upd, argF, TK.agg, aapp, asrc, one, aq.abuild, Nat.reduceEqDiff, Nat.reduceAdd, Nat.reduceLT, Nat.reduceLeDiff, Nat.reduceMul, Nat.reduceSub, reduceIte, reduceCtorEq, Int.reduceLE, Int.reduceToNat, Int.reduceLT, Int.reduceEq, Int.reduceAdd, Int.reduceSub, Int.reduceMul, Int.reduceNeg]
    exact Gives.pure rfl
  · exact Sub.aggR (.cons (Sub.refl _) (.cons (Sub.refl _) (.cons (Sub.refl _) (.cons (Sub.refl _) (.cons (Sub.nsl 5) .nil)))))
theorem put_con (e : Ex) : PCon env 18 [.agg e.row] (.agg (Sm.mk 3 [] [e] [] []).row) := by
  refine pcon_weak (v := .agg [.int .i64 3, .str [], .isl 5 [e.row], .nsl, .nsl]) ?_ ?_
  · rw [e.row_eq]
    refine con_of 6 [.cell 2 43] Try.func18 rfl rfl rfl rfl ?_
    refine awp_cutK (fun fr H => ∃ b1 b2, fr 1 = .ptr 5 b1 0 0 ∧ fr 2 = .ptr 5 b2 0 0 ∧ H b1 = some (.rows 5 [e.row]) ∧ (∃ r, H b2 = some (.rows 5 [r]) ∧ r.length = 5)) (fun K hK => ?_) ?_
    · refine awp_region rfl ?_; simp only [AL, TY, aq, aint, astr, aWant, isPtr, abnd, ahi, alo, aload, rd, newObj, alit, aparts, astore, amapset, cellsOf, ev, avOf, av1, putF, upd, argF, TK.agg, aapp, asrc, one, aq.abuild, Nat.reduceEqDiff, Nat.reduceAdd, Nat.reduceLT, Nat.reduceLeDiff, Nat.reduceMul, Nat.reduceSub, reduceIte, reduceCtorEq, Int.reduceLE, Int.reduceToNat, Int.reduceLT, Int.reduceEq, Int.reduceAdd, Int.reduceSub, Int.reduceMul, Int.reduceNeg]
      refine awpN_intro fun b1 hb1 => ?_
      simp only [AL, TY, aq, aint, astr, aWant, isPtr, abnd, ahi, alo, aload, rd, newObj, alit, aparts, astore, amapset, cellsOf, ev, avOf, av1, putF, upd, argF, TK.agg, aapp, asrc, one, aq.abuild, Nat.reduceEqDiff, Nat.reduceAdd, Nat.reduceLT, Nat.reduceLeDiff, Nat.reduceMul, Nat.reduceSub, reduceIte, reduceCtorEq, Int.reduceLE, Int.reduceToNat, Int.reduceLT, Int.reduceEq, Int.reduceAdd, Int.reduceSub, Int.reduceMul, Int.reduceNeg]
      refine awpN_intro fun b2 hb2 => ?_
      simp only [AL, TY, aq, aint, astr, aWant, isPtr, abnd, ahi, alo, aload, rd, newObj, alit, aparts, astore, amapset, cellsOf, ev, avOf, av1, putF, upd, argF, TK.agg, aapp, asrc, one, aq.abuild, Nat.reduceEqDiff, Nat.reduceAdd, Nat.reduceLT, Nat.reduceLeDiff, Nat.reduceMul, Nat.reduceSub, reduceIte, reduceCtorEq, Int.reduceLE, Int.reduceToNat, Int.reduceLT, Int.reduceEq, Int.reduceAdd, Int.reduceSub, Int.reduceMul, Int.reduceNeg]
      have hne : b1 ≠ b2 := fun e => by rw [← e, upd_same] at hb2; cases hb2
      exact hK _ _ ⟨b1, b2, rfl, rfl, by rw [e.row_eq]; simp [upd, hne], _, upd_same _ _ _, rfl⟩
    rintro fr H ⟨b1, b2, f1, f2, hb1, r, hb2, hr⟩
    rw [e.row_eq] at hb1
    have hr' := e.row_eq
    generalize hL : e.kids.map Ex.row = kl at *
    match r, hr with
    | [r0, r1, r2, r3, r4], _ =>
    refine awp_seq_k fun K hK => ?_; refine awp_region rfl ?_; simp only [AL, TY, aq, aint, astr, aWant, isPtr, abnd, ahi, alo, aload, rd, newObj, alit, aparts, astore, amapset, cellsOf, ev, avOf, av1, putF, upd, argF, TK.agg, aapp, asrc, one, aq.abuild, Nat.reduceEqDiff, Nat.reduceAdd, Nat.reduceLT, Nat.reduceLeDiff, Nat.reduceMul, Nat.reduceSub, reduceIte, reduceCtorEq, Int.reduceLE, Int.reduceToNat, Int.reduceLT, Int.reduceEq, Int.reduceAdd, Int.reduceSub, Int.reduceMul, Int.reduceNeg]
    simp only [f1, f2, hb1, hb2, AL, TY, aq, aint, astr, aWant, isPtr, abnd, ahi, alo, aload, rd, newObj, alit, aparts, astore, amapset, cellsOf, ev, avOf, av1, putF, upd, argF, TK.agg, aapp, asrc, one, aq.abuild, Nat.reduceEqDiff, Nat.reduceAdd, Nat.reduceLT, Nat.reduceLeDiff, Nat.reduceMul, Nat.reduceSub, reduceIte, reduceCtorEq, Int.reduceLE, Int.reduceToNat, Int.reduceLT, Int.reduceEq, Int.reduceAdd, Int.reduceSub, Int.reduceMul, Int.reduceNeg]
    refine awpB_sealed ?_
    simp only [f1, f2, hb1, hb2, AL, TY, aq, aint, astr, aWant, isPtr, abnd, ahi, alo, aload, rd, newObj, alit, aparts, astore, amapset, cellsOf, ev, avOf, av1, putF, upd, argF, TK.agg, aapp, asrc, one, aq.abuild, Nat.reduceEqDiff, Nat.reduceAdd, Nat.reduceLT, Nat.reduceLeDiff, Nat.reduceMul, Nat.reduceSub, reduceIte, reduceCtorEq, Int.reduceLE, Int.reduceToNat, Int.reduceLT, Int.reduceEq, Int.reduceAdd, Int.reduceSub, Int.reduceMul, Int.reduceNeg]
    refine hK _ _ ?_; clear hK K
    refine awp_ret ?_
    simp only [thenQ, blockQ, bodyQ, aresult, ares, argF, f2, upd_same, AL, TY, aq, aint, astr, aWant, isPtr, abnd, ahi, alo, aload, rd, newObj, alit, aparts, astore, amapset, cellsOf, ev, avOf, av1, putF, upd, argF, TK.agg, aapp, asrc, one, aq.abuild, Nat.reduceEqDiff, Nat.reduceAdd, Nat.reduceLT, Nat.reduceLeDiff, Nat.reduceMul, Nat.reduceSub, reduceIte, reduceCtorEq, Int.reduceLE, Int.reduceToNat, Int.reduceLT, Int.reduceEq, Int.reduceAdd, Int.reduceSub, Int.reduceMul, Int.reduceNeg]
    exact Gives.pure rfl
  · rw [Sm.row_eq]
    exact Sub.aggR (.cons (Sub.refl _) (.cons (Sub.refl _) (.cons (Sub.refl _) (.cons (Sub.nsl 5) (.cons (Sub.nsl 5) .nil)))))
/-- the example: f called with arguments -/
def plainP (name : Str) (args : List Ex) : Pg :=
  ⟨[], [], [⟨[102], [[97]], [], true, [.mk 7 [] [.mk 2 0 0 [97] []] [] []]⟩, ⟨[109, 97, 105, 110], [], [], false, [.mk 3 [] [.mk 4 0 0 name args] [] []]⟩]⟩
theorem plain_con (name : Str) (args : List Ex) : PCon env 24 [.str name, .isl 5 (args.map Ex.row)] (plainP name args).av := by
  have hput := put_con (.mk 4 0 0 name args)
  rw [Ex.row_eq, Sm.row_eq] at hput
  simp only [Ex.row_eq, Ex.kind, Ex.op, Ex.num, Ex.name, Ex.kids, Sm.kind, Sm.name, Sm.es, Sm.thn, Sm.els, List.map_cons, List.map_nil] at hput
  refine pcon_weak (v := .agg [.nsl, .nsl, .isl 5 [[.str [102], .isl 1 [[.str [97]]], .nsl, .bool true, .isl 5 [[.int .i64 7, .str [], .isl 5 [[.int .i64 2, .int .i64 0, .int .u32 0, .str [97], .nsl]], .nsl, .nsl]]], [.str [109, 97, 105, 110], .nsl, .nsl, .bool false, .isl 5 [[.int .i64 3, .str [], .isl 5 [[.int .i64 4, .int .i64 0, .int .u32 0, .str name, .isl 5 (args.map Ex.row)]], .isl 5 [], .isl 5 []]]]]]) ?_ ?_
  · refine con_of 23 [.cell 4 26] Try.func24 rfl rfl rfl rfl ?_
    refine awp_cutK (fun fr H => ∃ b4, fr 0 = .str name ∧ fr 1 = .isl 5 (args.map Ex.row) ∧ fr 4 = .ptr 3 b4 0 0 ∧ H b4 = some (.rows 3 [[.nsl, .nsl, .nsl]])) (fun K hK => ?_) ?_
    · refine awp_region rfl ?_; simp only [AL, TY, aq, aint, astr, aWant, isPtr, abnd, ahi, alo, aload, rd, newObj, alit, aparts, astore, amapset, cellsOf, ev, avOf, av1, putF, upd, argF, TK.agg, aapp, asrc, one, aq.abuild, Nat.reduceEqDiff, Nat.reduceAdd, Nat.reduceLT, Nat.reduceLeDiff, Nat.reduceMul, Nat.reduceSub, reduceIte, reduceCtorEq, Int.reduceLE, Int.reduceToNat, Int.reduceLT, Int.reduceEq, Int.reduceAdd, Int.reduceSub, Int.reduceMul, Int.reduceNeg]
      refine awpN_intro fun b4 hb4 => ?_
      simp only [AL, TY, aq, aint, astr, aWant, isPtr, abnd, ahi, alo, aload, rd, newObj, alit, aparts, astore, amapset, cellsOf, ev, avOf, av1, putF, upd, argF, TK.agg, aapp, asrc, one, aq.abuild, Nat.reduceEqDiff, Nat.reduceAdd, Nat.reduceLT, Nat.reduceLeDiff, Nat.reduceMul, Nat.reduceSub, reduceIte, reduceCtorEq, Int.reduceLE, Int.reduceToNat, Int.reduceLT, Int.reduceEq, Int.reduceAdd, Int.reduceSub, Int.reduceMul, Int.reduceNeg]
      exact hK _ _ ⟨b4, rfl, rfl, rfl, upd_same _ _ _⟩
    rintro fr H ⟨b4, f0, f1, f4, hb4⟩
    refine awp_cutK (fun fr H => ∃ b5, fr 0 = .str name ∧ fr 1 = .isl 5 (args.map Ex.row) ∧ fr 4 = .ptr 3 b4 0 0 ∧ fr 5 = .ptr 5 b5 0 0 ∧ H b4 = some (.rows 3 [[.nsl, .nsl, .nsl]]) ∧ H b5 = some (.rows 5 [[.str [102], .isl 1 [[.str [97]]], .nsl, .bool true, .isl 5 [[.int .i64 7, .str [], .isl 5 [[.int .i64 2, .int .i64 0, .int .u32 0, .str [97], .nsl]], .nsl, .nsl]]]])) (fun K hK => ?_) ?_
    · refine awp_region rfl ?_; simp only [AL, TY, aq, aint, astr, aWant, isPtr, abnd, ahi, alo, aload, rd, newObj, alit, aparts, astore, amapset, cellsOf, ev, avOf, av1, putF, upd, argF, TK.agg, aapp, asrc, one, aq.abuild, Nat.reduceEqDiff, Nat.reduceAdd, Nat.reduceLT, Nat.reduceLeDiff, Nat.reduceMul, Nat.reduceSub, reduceIte, reduceCtorEq, Int.reduceLE, Int.reduceToNat, Int.reduceLT, Int.reduceEq, Int.reduceAdd, Int.reduceSub, Int.reduceMul, Int.reduceNeg]
      repeat' (refine awpB_sealed ?_; simp only [AL, TY, aq, aint, astr, aWant, isPtr, abnd, ahi, alo, aload, rd, newObj, alit, aparts, astore, amapset, cellsOf, ev, avOf, av1, putF, upd, argF, TK.agg, aapp, asrc, one, aq.abuild, Nat.reduceEqDiff, Nat.reduceAdd, Nat.reduceLT, Nat.reduceLeDiff, Nat.reduceMul, Nat.reduceSub, reduceIte, reduceCtorEq, Int.reduceLE, Int.reduceToNat, Int.reduceLT, Int.reduceEq, Int.reduceAdd, Int.reduceSub, Int.reduceMul, Int.reduceNeg])
      refine awpN_intro fun b5 hb5 => ?_
      simp only [AL, TY, aq, aint, astr, aWant, isPtr, abnd, ahi, alo, aload, rd, newObj, alit, aparts, astore, amapset, cellsOf, ev, avOf, av1, putF, upd, argF, TK.agg, aapp, asrc, one, aq.abuild, Nat.reduceEqDiff, Nat.reduceAdd, Nat.reduceLT, Nat.reduceLeDiff, Nat.reduceMul, Nat.reduceSub, reduceIte, reduceCtorEq, Int.reduceLE, Int.reduceToNat, Int.reduceLT, Int.reduceEq, Int.reduceAdd, Int.reduceSub, Int.reduceMul, Int.reduceNeg]
      have q : b4 ≠ b5 := fun e => by rw [e, hb5] at hb4; cases hb4
      exact hK _ _ ⟨b5, f0, f1, f4, rfl, by simp only [upd, if_neg q]; exact hb4, upd_same _ _ _⟩
    rintro fr H ⟨b5, f0, f1, f4, f5, hb4, hb5⟩
    refine awp_cutK (fun fr H => ∃ b6, fr 4 = .ptr 3 b4 0 0 ∧ fr 5 = .ptr 5 b5 0 0 ∧ fr 6 = .ptr 5 b6 0 0 ∧ H b4 = some (.rows 3 [[.nsl, .nsl, .nsl]]) ∧ H b5 = some (.rows 5 [[.str [102], .isl 1 [[.str [97]]], .nsl, .bool true, .isl 5 [[.int .i64 7, .str [], .isl 5 [[.int .i64 2, .int .i64 0, .int .u32 0, .str [97], .nsl]], .nsl, .nsl]]]]) ∧ H b6 = some (.rows 5 [[.str [109, 97, 105, 110], .nsl, .nsl, .bool false, .isl 5 [[.int .i64 3, .str [], .isl 5 [[.int .i64 4, .int .i64 0, .int .u32 0, .str name, .isl 5 (args.map Ex.row)]], .isl 5 [], .isl 5 []]]]])) (fun K hK => ?_) ?_
    · refine awp_region rfl ?_
      simp only [f0, f1, AL, TY, aq, aint, astr, aWant, isPtr, abnd, ahi, alo, aload, rd, newObj, alit, aparts, astore, amapset, cellsOf, ev, avOf, av1, putF, upd, argF, TK.agg, aapp, asrc, one, aq.abuild, Nat.reduceEqDiff, Nat.reduceAdd, Nat.reduceLT, Nat.reduceLeDiff, Nat.reduceMul, Nat.reduceSub, reduceIte, reduceCtorEq, Int.reduceLE, Int.reduceToNat, Int.reduceLT, Int.reduceEq, Int.reduceAdd, Int.reduceSub, Int.reduceMul, Int.reduceNeg]
      refine awpC_pure' hput ?_
      simp only [AL, TY, aq, aint, astr, aWant, isPtr, abnd, ahi, alo, aload, rd, newObj, alit, aparts, astore, amapset, cellsOf, ev, avOf, av1, putF, upd, argF, TK.agg, aapp, asrc, one, aq.abuild, Nat.reduceEqDiff, Nat.reduceAdd, Nat.reduceLT, Nat.reduceLeDiff, Nat.reduceMul, Nat.reduceSub, reduceIte, reduceCtorEq, Int.reduceLE, Int.reduceToNat, Int.reduceLT, Int.reduceEq, Int.reduceAdd, Int.reduceSub, Int.reduceMul, Int.reduceNeg]
      repeat' (refine awpB_sealed ?_; simp only [AL, TY, aq, aint, astr, aWant, isPtr, abnd, ahi, alo, aload, rd, newObj, alit, aparts, astore, amapset, cellsOf, ev, avOf, av1, putF, upd, argF, TK.agg, aapp, asrc, one, aq.abuild, Nat.reduceEqDiff, Nat.reduceAdd, Nat.reduceLT, Nat.reduceLeDiff, Nat.reduceMul, Nat.reduceSub, reduceIte, reduceCtorEq, Int.reduceLE, Int.reduceToNat, Int.reduceLT, Int.reduceEq, Int.reduceAdd, Int.reduceSub, Int.reduceMul, Int.reduceNeg])
      refine awpN_intro fun b6 hb6 => ?_
      simp only [AL, TY, aq, aint, astr, aWant, isPtr, abnd, ahi, alo, aload, rd, newObj, alit, aparts, astore, amapset, cellsOf, ev, avOf, av1, putF, upd, argF, TK.agg, aapp, asrc, one, aq.abuild, Nat.reduceEqDiff, Nat.reduceAdd, Nat.reduceLT, Nat.reduceLeDiff, Nat.reduceMul, Nat.reduceSub, reduceIte, reduceCtorEq, Int.reduceLE, Int.reduceToNat, Int.reduceLT, Int.reduceEq, Int.reduceAdd, Int.reduceSub, Int.reduceMul, Int.reduceNeg]
      have q : b4 ≠ b6 := fun e => by rw [e, hb6] at hb4; cases hb4
      have q' : b5 ≠ b6 := fun e => by rw [e, hb6] at hb5; cases hb5
      exact hK _ _ ⟨b6, f4, f5, rfl, by simp only [upd, if_neg q]; exact hb4, by simp only [upd, if_neg q']; exact hb5, upd_same _ _ _⟩
    rintro fr H ⟨b6, f4, f5, f6, hb4, hb5, hb6⟩
    refine awp_seq_k fun K hK => ?_; refine awp_region rfl ?_; simp only [AL, TY, aq, aint, astr, aWant, isPtr, abnd, ahi, alo, aload, rd, newObj, alit, aparts, astore, amapset, cellsOf, ev, avOf, av1, putF, upd, argF, TK.agg, aapp, asrc, one, aq.abuild, Nat.reduceEqDiff, Nat.reduceAdd, Nat.reduceLT, Nat.reduceLeDiff, Nat.reduceMul, Nat.reduceSub, reduceIte, reduceCtorEq, Int.reduceLE, Int.reduceToNat, Int.reduceLT, Int.reduceEq, Int.reduceAdd, Int.reduceSub, Int.reduceMul, Int.reduceNeg]
    simp only [f4, f5, f6, hb4, hb5, hb6, AL, TY, aq, aint, astr, aWant, isPtr, abnd, ahi, alo, aload, rd, newObj, alit, aparts, astore, amapset, cellsOf, ev, avOf, av1, putF, upd, argF, TK.agg, aapp, asrc, one, aq.abuild, Nat.reduceEqDiff, Nat.reduceAdd, Nat.reduceLT, Nat.reduceLeDiff, Nat.reduceMul, Nat.reduceSub, reduceIte, reduceCtorEq, Int.reduceLE, Int.reduceToNat, Int.reduceLT, Int.reduceEq, Int.reduceAdd, Int.reduceSub, Int.reduceMul, Int.reduceNeg]
    refine awpB_sealed ?_
    simp only [f4, f5, f6, hb4, hb5, hb6, AL, TY, aq, aint, astr, aWant, isPtr, abnd, ahi, alo, aload, rd, newObj, alit, aparts, astore, amapset, cellsOf, ev, avOf, av1, putF, upd, argF, TK.agg, aapp, asrc, one, aq.abuild, Nat.reduceEqDiff, Nat.reduceAdd, Nat.reduceLT, Nat.reduceLeDiff, Nat.reduceMul, Nat.reduceSub, reduceIte, reduceCtorEq, Int.reduceLE, Int.reduceToNat, Int.reduceLT, Int.reduceEq, Int.reduceAdd, Int.reduceSub, Int.reduceMul, Int.reduceNeg]
    refine hK _ _ ?_; clear hK K
    refine awp_ret ?_
    simp only [thenQ, blockQ, bodyQ, aresult, ares, argF, f4, upd_same, AL, TY, aq, aint, astr, aWant, isPtr, abnd, ahi, alo, aload, rd, newObj, alit, aparts, astore, amapset, cellsOf, ev, avOf, av1, putF, upd, argF, TK.agg, aapp, asrc, one, aq.abuild, Nat.reduceEqDiff, Nat.reduceAdd, Nat.reduceLT, Nat.reduceLeDiff, Nat.reduceMul, Nat.reduceSub, reduceIte, reduceCtorEq, Int.reduceLE, Int.reduceToNat, Int.reduceLT, Int.reduceEq, Int.reduceAdd, Int.reduceSub, Int.reduceMul, Int.reduceNeg]
    exact Gives.pure rfl
  · simp only [plainP, Pg.av, Pg.row, Fu.row, List.map_cons, List.map_nil, Sm.row_eq, Ex.row_eq, strRow, Ex.kind, Ex.op, Ex.num, Ex.name, Ex.kids, Sm.kind, Sm.name, Sm.es, Sm.thn, Sm.els]
    refine Sub.aggR ?_
    repeat' (first | exact SubR.nil | exact SubRs.nil | exact Sub.nsl _ | exact Sub.refl _ | refine SubR.cons ?_ ?_ | refine SubRs.cons ?_ ?_ | refine Sub.isl ?_)
end Go.Proofs.Ytnbokmbjiioooaa
