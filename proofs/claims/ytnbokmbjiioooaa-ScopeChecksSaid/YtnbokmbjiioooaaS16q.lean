/- Chapter 16, the program's: Find. -/
import Derived.Test.YtnbokmbjiioooaaS16p
set_option linter.unusedSimpArgs false
set_option linter.unusedVariables false
namespace Go.Proofs.Ytnbokmbjiioooaa
open Go.Al
set_option maxHeartbeats 4000000 in
theorem scFind_con (p : Pg) (hp : p.few) (i : Nat) (hi : i < p.funs.length) (s : Str) : PCon env 21 [p.av, .int .i64 i, .str s] (.tup [.int .i64 (findF p i s).1, .int .i64 (findF p i s).2]) := by
  have hglob := globals_con p hp
  have hff : p.funs.length ≤ 10000 := hp.f
  have hg0 := List.getElem?_eq_getElem hi
  have hg := getF hg0
  have hfs := hp.fs _ (List.getElem_mem hi)
  have hFind := find_eq16 p i _ hg0
  generalize p.funs[i] = f at hg hfs hFind
  have hloc := locals_con f (by omega) (by omega)
  have d1 : decide ((0 : Int) ≤ (i : Int)) = true := decide_eq_true (by omega)
  have d2 : decide ((i : Int) < (p.funs.length : Int)) = true := decide_eq_true (by omega)
  have d3 : (i : Int) < (p.funs.length : Int) := by omega
  refine con_of 43 [.tmp 6, .tmp 7] Try.func21 rfl rfl rfl rfl ?_
  simp only [Pg.av] at hglob ⊢
  refine awp_cutK (fun fr H => ∃ b1, fr 1 = .int .i64 i ∧ fr 2 = .str s ∧ fr 3 = .ptr 3 b1 0 0 ∧ H b1 = some (.rows 3 [p.row])) (fun K hK => ?_) ?_
  · refine awp_region rfl ?_; simp only [AL, TY, aq, aint, astr, aWant, isPtr, abnd, ahi, alo, aload, rd, newObj, alit, aparts, astore, amapset, cellsOf, ev, avOf, av1, putF, upd, argF, TK.agg, aapp, asrc, one, aq.abuild, Nat.reduceEqDiff, Nat.reduceAdd, Nat.reduceLT, Nat.reduceLeDiff, Nat.reduceMul, Nat.reduceSub, reduceIte, reduceCtorEq, Int.reduceLE, Int.reduceToNat, Int.reduceLT, Int.reduceEq, Int.reduceAdd, Int.reduceSub, Int.reduceMul, Int.reduceNeg]
    simp only [Pg.row]
    refine awpN_intro fun b1 hb1 => ?_
    simp only [AL, TY, aq, aint, astr, aWant, isPtr, abnd, ahi, alo, aload, rd, newObj, alit, aparts, astore, amapset, cellsOf, ev, avOf, av1, putF, upd, argF, TK.agg, aapp, asrc, one, aq.abuild, Nat.reduceEqDiff, Nat.reduceAdd, Nat.reduceLT, Nat.reduceLeDiff, Nat.reduceMul, Nat.reduceSub, reduceIte, reduceCtorEq, Int.reduceLE, Int.reduceToNat, Int.reduceLT, Int.reduceEq, Int.reduceAdd, Int.reduceSub, Int.reduceMul, Int.reduceNeg]
    exact hK _ _ ⟨b1, rfl, rfl, rfl, upd_same _ _ _⟩
  rintro fr H ⟨b1, f1, f2, f3, hb1⟩
  refine awp_cutK (fun fr H => ∃ b8, fr 1 = .int .i64 i ∧ fr 2 = .str s ∧ fr 3 = .ptr 3 b1 0 0 ∧ fr 8 = .ptr 2 b8 0 0 ∧ b1 ≠ b8 ∧ H b1 = some (.rows 3 [p.row]) ∧ H b8 = some (.rows 2 [[.nmp, .nmp]])) (fun K hK => ?_) ?_
  · refine awp_region rfl ?_; simp only [AL, TY, aq, aint, astr, aWant, isPtr, abnd, ahi, alo, aload, rd, newObj, alit, aparts, astore, amapset, cellsOf, ev, avOf, av1, putF, upd, argF, TK.agg, aapp, asrc, one, aq.abuild, Nat.reduceEqDiff, Nat.reduceAdd, Nat.reduceLT, Nat.reduceLeDiff, Nat.reduceMul, Nat.reduceSub, reduceIte, reduceCtorEq, Int.reduceLE, Int.reduceToNat, Int.reduceLT, Int.reduceEq, Int.reduceAdd, Int.reduceSub, Int.reduceMul, Int.reduceNeg]
    refine awpN_intro fun b8 hb8 => ?_
    simp only [AL, TY, aq, aint, astr, aWant, isPtr, abnd, ahi, alo, aload, rd, newObj, alit, aparts, astore, amapset, cellsOf, ev, avOf, av1, putF, upd, argF, TK.agg, aapp, asrc, one, aq.abuild, Nat.reduceEqDiff, Nat.reduceAdd, Nat.reduceLT, Nat.reduceLeDiff, Nat.reduceMul, Nat.reduceSub, reduceIte, reduceCtorEq, Int.reduceLE, Int.reduceToNat, Int.reduceLT, Int.reduceEq, Int.reduceAdd, Int.reduceSub, Int.reduceMul, Int.reduceNeg]
    have q1 : b1 ≠ b8 := fun e => by rw [e, hb8] at hb1; cases hb1
    refine hK _ _ ⟨b8, f1, f2, f3, rfl, q1, ?_, upd_same _ _ _⟩
    simp only [upd, if_neg q1]; exact hb1
  rintro fr H ⟨b8, f1, f2, f3, f8, q1, hb1, hb8⟩
  refine awp_cutK (fun fr H => ∃ bi, fr 2 = .str s ∧ fr 3 = .ptr 3 b1 0 0 ∧ fr 8 = .ptr 2 b8 0 0 ∧ H b1 = some (.rows 3 [p.row]) ∧ H b8 = some (.rows 2 [[.nmp, .mp bi]]) ∧ H bi = some (.amap ((stT (locT f)).1.map ent))) (fun K hK => ?_) ?_
  · have hb1' := hb1
    simp only [Pg.row] at hb1'
    simp only [Fu.row] at hloc hg
    refine awp_seq_k fun K hK => ?_; refine awp_region rfl ?_; simp only [AL, TY, aq, aint, astr, aWant, isPtr, abnd, ahi, alo, aload, rd, newObj, alit, aparts, astore, amapset, cellsOf, ev, avOf, av1, putF, upd, argF, TK.agg, aapp, asrc, one, aq.abuild, Nat.reduceEqDiff, Nat.reduceAdd, Nat.reduceLT, Nat.reduceLeDiff, Nat.reduceMul, Nat.reduceSub, reduceIte, reduceCtorEq, Int.reduceLE, Int.reduceToNat, Int.reduceLT, Int.reduceEq, Int.reduceAdd, Int.reduceSub, Int.reduceMul, Int.reduceNeg]
    simp only [f1, f3, hb1', d1, d2, List.length_map, AL, TY, aq, aint, astr, aWant, isPtr, abnd, ahi, alo, aload, rd, newObj, alit, aparts, astore, amapset, cellsOf, ev, avOf, av1, putF, upd, argF, TK.agg, aapp, asrc, one, aq.abuild, Nat.reduceEqDiff, Nat.reduceAdd, Nat.reduceLT, Nat.reduceLeDiff, Nat.reduceMul, Nat.reduceSub, reduceIte, reduceCtorEq, Int.reduceLE, Int.reduceToNat, Int.reduceLT, Int.reduceEq, Int.reduceAdd, Int.reduceSub, Int.reduceMul, Int.reduceNeg]
    refine hK _ _ ?_; clear hK K
    refine awp_if true rfl (fun _ => ?_) (fun hc => by cases hc)
    refine awp_region rfl ?_
    simp only [f1, f3, f8, hb1', d3, hg, List.length_map, AL, TY, aq, aint, astr, aWant, isPtr, abnd, ahi, alo, aload, rd, newObj, alit, aparts, astore, amapset, cellsOf, ev, avOf, av1, putF, upd, argF, TK.agg, aapp, asrc, one, aq.abuild, Nat.reduceEqDiff, Nat.reduceAdd, Nat.reduceLT, Nat.reduceLeDiff, Nat.reduceMul, Nat.reduceSub, reduceIte, reduceCtorEq, Int.reduceLE, Int.reduceToNat, Int.reduceLT, Int.reduceEq, Int.reduceAdd, Int.reduceSub, Int.reduceMul, Int.reduceNeg]
    refine awpC_makes hloc (SubL.refl _) fun v H' H2 ⟨bi, hv, hbi⟩ hk hn => ?_
    subst hv
    have k8 := hk _ _ (fun h => h) hb8
    simp only [f8, k8, thenQ, blockQ, AL, TY, aq, aint, astr, aWant, isPtr, abnd, ahi, alo, aload, rd, newObj, alit, aparts, astore, amapset, cellsOf, ev, avOf, av1, putF, upd, argF, TK.agg, aapp, asrc, one, aq.abuild, Nat.reduceEqDiff, Nat.reduceAdd, Nat.reduceLT, Nat.reduceLeDiff, Nat.reduceMul, Nat.reduceSub, reduceIte, reduceCtorEq, Int.reduceLE, Int.reduceToNat, Int.reduceLT, Int.reduceEq, Int.reduceAdd, Int.reduceSub, Int.reduceMul, Int.reduceNeg]
    have hbi2 := hn _ _ hbi
    have q2 : bi ≠ b8 := fun e => by rw [e, hb8] at hbi2; cases hbi2.2
    refine hK _ _ ⟨bi, f2, f3, f8, ?_, upd_same _ _ _, ?_⟩
    · simp only [upd, if_neg q1]; exact hk _ _ (fun h => h) hb1
    · simp only [upd, if_neg q2]; exact hbi2.1
  rintro fr H ⟨bi, f2, f3, f8, hb1, hb8, hbi⟩
  refine awp_cutK (fun fr H => ∃ bo, fr 2 = .str s ∧ fr 8 = .ptr 2 b8 0 0 ∧ H b8 = some (.rows 2 [[.mp bo, .mp bi]]) ∧ H bi = some (.amap ((stT (locT f)).1.map ent)) ∧ H bo = some (.amap ((stT (globT p)).1.map ent))) (fun K hK => ?_) ?_
  · have hb1' := hb1
    simp only [Pg.row] at hb1' hglob
    refine awp_region rfl ?_
    simp only [f3, f8, hb1', AL, TY, aq, aint, astr, aWant, isPtr, abnd, ahi, alo, aload, rd, newObj, alit, aparts, astore, amapset, cellsOf, ev, avOf, av1, putF, upd, argF, TK.agg, aapp, asrc, one, aq.abuild, Nat.reduceEqDiff, Nat.reduceAdd, Nat.reduceLT, Nat.reduceLeDiff, Nat.reduceMul, Nat.reduceSub, reduceIte, reduceCtorEq, Int.reduceLE, Int.reduceToNat, Int.reduceLT, Int.reduceEq, Int.reduceAdd, Int.reduceSub, Int.reduceMul, Int.reduceNeg]
    refine awpC_makes hglob (SubL.refl _) fun v H' H2 ⟨bo, hv, hbo⟩ hk hn => ?_
    subst hv
    have k8 := hk _ _ (fun h => h) hb8
    simp only [f8, k8, AL, TY, aq, aint, astr, aWant, isPtr, abnd, ahi, alo, aload, rd, newObj, alit, aparts, astore, amapset, cellsOf, ev, avOf, av1, putF, upd, argF, TK.agg, aapp, asrc, one, aq.abuild, Nat.reduceEqDiff, Nat.reduceAdd, Nat.reduceLT, Nat.reduceLeDiff, Nat.reduceMul, Nat.reduceSub, reduceIte, reduceCtorEq, Int.reduceLE, Int.reduceToNat, Int.reduceLT, Int.reduceEq, Int.reduceAdd, Int.reduceSub, Int.reduceMul, Int.reduceNeg]
    have hbo2 := hn _ _ hbo
    have q2 : bo ≠ b8 := fun e => by rw [e, hb8] at hbo2; cases hbo2.2
    have q3 : bi ≠ b8 := fun e => by rw [e, hb8] at hbi; cases hbi
    refine hK _ _ ⟨bo, f2, f8, upd_same _ _ _, ?_, ?_⟩
    · simp only [upd, if_neg q3]; exact hk _ _ (fun h => h) hbi
    · simp only [upd, if_neg q2]; exact hbo2.1
  rintro fr H ⟨bo, f2, f8, hb8, hbi, hbo⟩
  have hfind := find_con _ _ bo bi s H hbo hbi
  rw [hFind] at hfind
  refine awp_cutK (fun fr H => ∃ b9, fr 9 = .ptr 2 b9 0 0 ∧ H b9 = some (.rows 2 [[.int .i64 (findF p i s).1, .int .i64 (findF p i s).2]])) (fun K hK => ?_) ?_
  · refine awp_region rfl ?_
    simp only [f2, f8, hb8, AL, TY, aq, aint, astr, aWant, isPtr, abnd, ahi, alo, aload, rd, newObj, alit, aparts, astore, amapset, cellsOf, ev, avOf, av1, putF, upd, argF, TK.agg, aapp, asrc, one, aq.abuild, Nat.reduceEqDiff, Nat.reduceAdd, Nat.reduceLT, Nat.reduceLeDiff, Nat.reduceMul, Nat.reduceSub, reduceIte, reduceCtorEq, Int.reduceLE, Int.reduceToNat, Int.reduceLT, Int.reduceEq, Int.reduceAdd, Int.reduceSub, Int.reduceMul, Int.reduceNeg]
    refine awpC_whole hfind (SubL.refl _) (fun _ => trivial) fun v H2 ⟨hv, hk2⟩ => ?_
    subst hv
    simp only [thV, AL, TY, aq, aint, astr, aWant, isPtr, abnd, ahi, alo, aload, rd, newObj, alit, aparts, astore, amapset, cellsOf, ev, avOf, av1, putF, upd, argF, TK.agg, aapp, asrc, one, aq.abuild, Nat.reduceEqDiff, Nat.reduceAdd, Nat.reduceLT, Nat.reduceLeDiff, Nat.reduceMul, Nat.reduceSub, reduceIte, reduceCtorEq, Int.reduceLE, Int.reduceToNat, Int.reduceLT, Int.reduceEq, Int.reduceAdd, Int.reduceSub, Int.reduceMul, Int.reduceNeg]
    refine awpN_intro fun b9 hb9 => ?_
    simp only [AL, TY, aq, aint, astr, aWant, isPtr, abnd, ahi, alo, aload, rd, newObj, alit, aparts, astore, amapset, cellsOf, ev, avOf, av1, putF, upd, argF, TK.agg, aapp, asrc, one, aq.abuild, Nat.reduceEqDiff, Nat.reduceAdd, Nat.reduceLT, Nat.reduceLeDiff, Nat.reduceMul, Nat.reduceSub, reduceIte, reduceCtorEq, Int.reduceLE, Int.reduceToNat, Int.reduceLT, Int.reduceEq, Int.reduceAdd, Int.reduceSub, Int.reduceMul, Int.reduceNeg]
    exact hK _ _ ⟨b9, rfl, upd_same _ _ _⟩
  rintro fr H ⟨b9, f9, hb9⟩
  refine awp_seq_k fun K hK => ?_
  refine awp_region_draw (fun _ => True) [(0, true), (1, true), (2, true), (3, true), (4, true), (5, true)] draws (by kernel_rfl) rfl ?_
  simp only [emit, markOf, f9, hb9, awpL_entry, touch_ptr, AL, TY, aq, aint, astr, aWant, isPtr, abnd, ahi, alo, aload, rd, newObj, alit, aparts, astore, amapset, cellsOf, ev, avOf, av1, putF, upd, argF, TK.agg, aapp, asrc, one, aq.abuild, Nat.reduceEqDiff, Nat.reduceAdd, Nat.reduceLT, Nat.reduceLeDiff, Nat.reduceMul, Nat.reduceSub, reduceIte, reduceCtorEq, Int.reduceLE, Int.reduceToNat, Int.reduceLT, Int.reduceEq, Int.reduceAdd, Int.reduceSub, Int.reduceMul, Int.reduceNeg]
  refine hK _ _ ?_; clear hK K
  refine awp_ret ?_; simp only [thenQ, blockQ, bodyQ, aresult, ares, argF, AL, TY, aq, aint, astr, aWant, isPtr, abnd, ahi, alo, aload, rd, newObj, alit, aparts, astore, amapset, cellsOf, ev, avOf, av1, putF, upd, argF, TK.agg, aapp, asrc, one, aq.abuild, Nat.reduceEqDiff, Nat.reduceAdd, Nat.reduceLT, Nat.reduceLeDiff, Nat.reduceMul, Nat.reduceSub, reduceIte, reduceCtorEq, Int.reduceLE, Int.reduceToNat, Int.reduceLT, Int.reduceEq, Int.reduceAdd, Int.reduceSub, Int.reduceMul, Int.reduceNeg]; refine Gives.pure ?_
  rfl
end Go.Proofs.Ytnbokmbjiioooaa
