/- Chapter 16: the first law's contract. -/
import Derived.Test.YtnbokmbjiioooaaS16t
set_option linter.unusedSimpArgs false
set_option linter.unusedVariables false
namespace Go.Proofs.Ytnbokmbjiioooaa
open Go.Al
theorem callsFrom_row (p : Pg) : ∀ (l : List Fu) (i : Nat), ∀ x ∈ callsFrom p i l, x.length ≤ p.funs.length
  | [], i, x, h => by simp [callsFrom] at h
  | f :: l, i, x, h => by
    simp only [callsFrom, List.mem_cons] at h
    rcases h with rfl | h
    · simp only [callsRow, List.length_map]
      have := List.length_filter_le (fun n => (usesS f.body).any (isCall p i n)) (List.range p.funs.length)
      rwa [List.length_range] at this
    · exact callsFrom_row p l (i + 1) x h
theorem ScopeChecks_con (p : Pg) (hp : p.ok) : PCon env 3 [p.av] (.bool true) := by
  have hfew := few_con p hp
  have hall := few16_few p hp
  have hav : p.av = .agg p.row := rfl
  have hrow : p.row = [.isl 1 (p.vars.map strRow), .isl 2 (p.arrs.map Ar.row), .isl 5 (p.funs.map Fu.row)] := rfl
  rw [hav, hrow] at hfew ⊢
  refine con_of 20 [.tmp 2] Try.func3 rfl rfl rfl rfl ?_
  refine awp_seq_k fun K hK => ?_; refine awp_region rfl ?_; simp only [AL, TY, aq, aint, astr, aWant, isPtr, abnd, ahi, alo, aload, rd, newObj, alit, aparts, astore, amapset, cellsOf, ev, avOf, av1, putF, upd, argF, TK.agg, aapp, asrc, one, aq.abuild, Nat.reduceEqDiff, Nat.reduceAdd, Nat.reduceLT, Nat.reduceLeDiff, Nat.reduceMul, Nat.reduceSub, reduceIte, reduceCtorEq, Int.reduceLE, Int.reduceToNat, Int.reduceLT, Int.reduceEq, Int.reduceAdd, Int.reduceSub, Int.reduceMul, Int.reduceNeg]
  refine awpN_intro fun b hb => ?_; simp only [AL, TY, aq, aint, astr, aWant, isPtr, abnd, ahi, alo, aload, rd, newObj, alit, aparts, astore, amapset, cellsOf, ev, avOf, av1, putF, upd, argF, TK.agg, aapp, asrc, one, aq.abuild, Nat.reduceEqDiff, Nat.reduceAdd, Nat.reduceLT, Nat.reduceLeDiff, Nat.reduceMul, Nat.reduceSub, reduceIte, reduceCtorEq, Int.reduceLE, Int.reduceToNat, Int.reduceLT, Int.reduceEq, Int.reduceAdd, Int.reduceSub, Int.reduceMul, Int.reduceNeg]
  refine hK _ _ ?_; clear hK K
  refine awp_seq ?_
  refine awp_seq_k fun K hK => ?_; refine awp_region rfl ?_; simp only [AL, TY, aq, aint, astr, aWant, isPtr, abnd, ahi, alo, aload, rd, newObj, alit, aparts, astore, amapset, cellsOf, ev, avOf, av1, putF, upd, argF, TK.agg, aapp, asrc, one, aq.abuild, Nat.reduceEqDiff, Nat.reduceAdd, Nat.reduceLT, Nat.reduceLeDiff, Nat.reduceMul, Nat.reduceSub, reduceIte, reduceCtorEq, Int.reduceLE, Int.reduceToNat, Int.reduceLT, Int.reduceEq, Int.reduceAdd, Int.reduceSub, Int.reduceMul, Int.reduceNeg]
  refine awpC_pure' alive_con ?_
  simp only [AL, TY, aq, aint, astr, aWant, isPtr, abnd, ahi, alo, aload, rd, newObj, alit, aparts, astore, amapset, cellsOf, ev, avOf, av1, putF, upd, argF, TK.agg, aapp, asrc, one, aq.abuild, Nat.reduceEqDiff, Nat.reduceAdd, Nat.reduceLT, Nat.reduceLeDiff, Nat.reduceMul, Nat.reduceSub, reduceIte, reduceCtorEq, Int.reduceLE, Int.reduceToNat, Int.reduceLT, Int.reduceEq, Int.reduceAdd, Int.reduceSub, Int.reduceMul, Int.reduceNeg]
  refine hK _ _ ?_; clear hK K
  refine awp_if false rfl (fun hc => by cases hc) (fun _ => ?_)
  refine awp_skip ?_; simp only [thenQ, blockQ]
  refine awp_seq ?_
  refine awp_seq_k fun K hK => ?_; refine awp_region rfl ?_; simp only [AL, TY, aq, aint, astr, aWant, isPtr, abnd, ahi, alo, aload, rd, newObj, alit, aparts, astore, amapset, cellsOf, ev, avOf, av1, putF, upd, argF, TK.agg, aapp, asrc, one, aq.abuild, Nat.reduceEqDiff, Nat.reduceAdd, Nat.reduceLT, Nat.reduceLeDiff, Nat.reduceMul, Nat.reduceSub, reduceIte, reduceCtorEq, Int.reduceLE, Int.reduceToNat, Int.reduceLT, Int.reduceEq, Int.reduceAdd, Int.reduceSub, Int.reduceMul, Int.reduceNeg]
  refine awpC_pure' hfew ?_
  simp only [AL, TY, aq, aint, astr, aWant, isPtr, abnd, ahi, alo, aload, rd, newObj, alit, aparts, astore, amapset, cellsOf, ev, avOf, av1, putF, upd, argF, TK.agg, aapp, asrc, one, aq.abuild, Nat.reduceEqDiff, Nat.reduceAdd, Nat.reduceLT, Nat.reduceLeDiff, Nat.reduceMul, Nat.reduceSub, reduceIte, reduceCtorEq, Int.reduceLE, Int.reduceToNat, Int.reduceLT, Int.reduceEq, Int.reduceAdd, Int.reduceSub, Int.reduceMul, Int.reduceNeg]
  refine hK _ _ ?_; clear hK K
  cases hc : few16 p with
  | false =>
    refine awp_if true rfl (fun _ => ?_) (fun hc => by cases hc)
    repeat' (first | (refine awp_seq_k fun K hK => ?_; refine awp_region rfl ?_; simp only [upd_same, AL, TY, aq, aint, astr, aWant, isPtr, abnd, ahi, alo, aload, rd, newObj, alit, aparts, astore, amapset, cellsOf, ev, avOf, av1, putF, upd, argF, TK.agg, aapp, asrc, one, aq.abuild, Nat.reduceEqDiff, Nat.reduceAdd, Nat.reduceLT, Nat.reduceLeDiff, Nat.reduceMul, Nat.reduceSub, reduceIte, reduceCtorEq, Int.reduceLE, Int.reduceToNat, Int.reduceLT, Int.reduceEq, Int.reduceAdd, Int.reduceSub, Int.reduceMul, Int.reduceNeg]; refine hK _ _ ?_; clear hK K) | (refine awp_seq ?_) | (refine awp_block ?_) | (refine awp_if true rfl (fun _ => ?_) (fun hc => by cases hc)) | (refine awp_if false rfl (fun hc => by cases hc) (fun _ => ?_)) | (refine awp_skip ?_; simp only [thenQ, blockQ]) | (refine awp_exit ?_; simp only [thenQ, blockQ, reduceIte, Nat.reduceEqDiff]) | (refine awp_region rfl ?_; simp only [upd_same, thenQ, blockQ, AL, TY, aq, aint, astr, aWant, isPtr, abnd, ahi, alo, aload, rd, newObj, alit, aparts, astore, amapset, cellsOf, ev, avOf, av1, putF, upd, argF, TK.agg, aapp, asrc, one, aq.abuild, Nat.reduceEqDiff, Nat.reduceAdd, Nat.reduceLT, Nat.reduceLeDiff, Nat.reduceMul, Nat.reduceSub, reduceIte, reduceCtorEq, Int.reduceLE, Int.reduceToNat, Int.reduceLT, Int.reduceEq, Int.reduceAdd, Int.reduceSub, Int.reduceMul, Int.reduceNeg]) | (refine awpG_splitN (fun h => ?_) (fun h => ?_) <;> simp only [h, upd_same, thenQ, blockQ, AL, TY, aq, aint, astr, aWant, isPtr, abnd, ahi, alo, aload, rd, newObj, alit, aparts, astore, amapset, cellsOf, ev, avOf, av1, putF, upd, argF, TK.agg, aapp, asrc, one, aq.abuild, Nat.reduceEqDiff, Nat.reduceAdd, Nat.reduceLT, Nat.reduceLeDiff, Nat.reduceMul, Nat.reduceSub, reduceIte, reduceCtorEq, Int.reduceLE, Int.reduceToNat, Int.reduceLT, Int.reduceEq, Int.reduceAdd, Int.reduceSub, Int.reduceMul, Int.reduceNeg]) | (refine awpG_split (fun h => ?_) (fun h => ?_) <;> simp only [h, upd_same, thenQ, blockQ, AL, TY, aq, aint, astr, aWant, isPtr, abnd, ahi, alo, aload, rd, newObj, alit, aparts, astore, amapset, cellsOf, ev, avOf, av1, putF, upd, argF, TK.agg, aapp, asrc, one, aq.abuild, Nat.reduceEqDiff, Nat.reduceAdd, Nat.reduceLT, Nat.reduceLeDiff, Nat.reduceMul, Nat.reduceSub, reduceIte, reduceCtorEq, Int.reduceLE, Int.reduceToNat, Int.reduceLT, Int.reduceEq, Int.reduceAdd, Int.reduceSub, Int.reduceMul, Int.reduceNeg]) | (refine awp_if _ rfl (fun h => ?_) (fun h => ?_)) | (refine awp_ret ?_; simp only [thenQ, blockQ, bodyQ, aresult, ares, argF, upd_same, AL, TY, aq, aint, astr, aWant, isPtr, abnd, ahi, alo, aload, rd, newObj, alit, aparts, astore, amapset, cellsOf, ev, avOf, av1, putF, upd, argF, TK.agg, aapp, asrc, one, aq.abuild, Nat.reduceEqDiff, Nat.reduceAdd, Nat.reduceLT, Nat.reduceLeDiff, Nat.reduceMul, Nat.reduceSub, reduceIte, reduceCtorEq, Int.reduceLE, Int.reduceToNat, Int.reduceLT, Int.reduceEq, Int.reduceAdd, Int.reduceSub, Int.reduceMul, Int.reduceNeg]; refine Gives.pure ?_))
    rfl
  | true =>
    obtain ⟨hf, h1⟩ := hall hc
    refine awp_if false rfl (fun hc => by cases hc) (fun _ => ?_)
    refine awp_skip ?_; simp only [thenQ, blockQ]
    have c1 := Check_con p hf h1
    have c2 := rCheck_con p hf h1
    have l1 := Calls_con p hf
    have l2 := rCalls_con p hf
    have hs := Same16_con (callsP p) (callsP p) (by rw [callsP, callsFrom_len]; have := hf.f; omega) (by rw [callsP, callsFrom_len]; have := hf.f; omega) (fun x hx => by have := callsFrom_row p _ _ x hx; have := hf.f; omega) (fun x hx => by have := callsFrom_row p _ _ x hx; have := hf.f; omega)
    rw [decide_eq_true rfl] at hs
    rw [hav, hrow] at c1 c2 l1 l2
    generalize checkI p = ck at *
    generalize (callsP p).map intsRow = cl at *
    refine awp_seq_k fun K hK => ?_
    refine awp_region_draw (fun x => x ≠ b) [(0, true), (2, false), (1, true), (3, true), (4, true), (5, true), (6, true), (8, false), (7, true), (9, true), (10, true), (11, true), (12, true)] draws (by kernel_rfl) rfl ?_
    simp only [emit, markOf, awpL_entry, touch_ptr, touch_ipt, upd_same, AL, TY, aq, aint, astr, aWant, isPtr, abnd, ahi, alo, aload, rd, newObj, alit, aparts, astore, amapset, cellsOf, ev, avOf, av1, putF, upd, argF, TK.agg, aapp, asrc, one, aq.abuild, Nat.reduceEqDiff, Nat.reduceAdd, Nat.reduceLT, Nat.reduceLeDiff, Nat.reduceMul, Nat.reduceSub, reduceIte, reduceCtorEq, Int.reduceLE, Int.reduceToNat, Int.reduceLT, Int.reduceEq, Int.reduceAdd, Int.reduceSub, Int.reduceMul, Int.reduceNeg]
    repeat' (first | (refine awpC_pure' c1 ?_; simp only [awpL_entry, touch_ptr, touch_ipt, upd_same, decide_true, AL, TY, aq, aint, astr, aWant, isPtr, abnd, ahi, alo, aload, rd, newObj, alit, aparts, astore, amapset, cellsOf, ev, avOf, av1, putF, upd, argF, TK.agg, aapp, asrc, one, aq.abuild, Nat.reduceEqDiff, Nat.reduceAdd, Nat.reduceLT, Nat.reduceLeDiff, Nat.reduceMul, Nat.reduceSub, reduceIte, reduceCtorEq, Int.reduceLE, Int.reduceToNat, Int.reduceLT, Int.reduceEq, Int.reduceAdd, Int.reduceSub, Int.reduceMul, Int.reduceNeg]) | (refine awpC_pure' c2 ?_; simp only [awpL_entry, touch_ptr, touch_ipt, upd_same, decide_true, AL, TY, aq, aint, astr, aWant, isPtr, abnd, ahi, alo, aload, rd, newObj, alit, aparts, astore, amapset, cellsOf, ev, avOf, av1, putF, upd, argF, TK.agg, aapp, asrc, one, aq.abuild, Nat.reduceEqDiff, Nat.reduceAdd, Nat.reduceLT, Nat.reduceLeDiff, Nat.reduceMul, Nat.reduceSub, reduceIte, reduceCtorEq, Int.reduceLE, Int.reduceToNat, Int.reduceLT, Int.reduceEq, Int.reduceAdd, Int.reduceSub, Int.reduceMul, Int.reduceNeg]) | (refine awpC_pure' l1 ?_; simp only [awpL_entry, touch_ptr, touch_ipt, upd_same, decide_true, AL, TY, aq, aint, astr, aWant, isPtr, abnd, ahi, alo, aload, rd, newObj, alit, aparts, astore, amapset, cellsOf, ev, avOf, av1, putF, upd, argF, TK.agg, aapp, asrc, one, aq.abuild, Nat.reduceEqDiff, Nat.reduceAdd, Nat.reduceLT, Nat.reduceLeDiff, Nat.reduceMul, Nat.reduceSub, reduceIte, reduceCtorEq, Int.reduceLE, Int.reduceToNat, Int.reduceLT, Int.reduceEq, Int.reduceAdd, Int.reduceSub, Int.reduceMul, Int.reduceNeg]) | (refine awpC_pure' l2 ?_; simp only [awpL_entry, touch_ptr, touch_ipt, upd_same, decide_true, AL, TY, aq, aint, astr, aWant, isPtr, abnd, ahi, alo, aload, rd, newObj, alit, aparts, astore, amapset, cellsOf, ev, avOf, av1, putF, upd, argF, TK.agg, aapp, asrc, one, aq.abuild, Nat.reduceEqDiff, Nat.reduceAdd, Nat.reduceLT, Nat.reduceLeDiff, Nat.reduceMul, Nat.reduceSub, reduceIte, reduceCtorEq, Int.reduceLE, Int.reduceToNat, Int.reduceLT, Int.reduceEq, Int.reduceAdd, Int.reduceSub, Int.reduceMul, Int.reduceNeg]) | (refine awpC_pure' hs ?_; simp only [awpL_entry, touch_ptr, touch_ipt, upd_same, decide_true, AL, TY, aq, aint, astr, aWant, isPtr, abnd, ahi, alo, aload, rd, newObj, alit, aparts, astore, amapset, cellsOf, ev, avOf, av1, putF, upd, argF, TK.agg, aapp, asrc, one, aq.abuild, Nat.reduceEqDiff, Nat.reduceAdd, Nat.reduceLT, Nat.reduceLeDiff, Nat.reduceMul, Nat.reduceSub, reduceIte, reduceCtorEq, Int.reduceLE, Int.reduceToNat, Int.reduceLT, Int.reduceEq, Int.reduceAdd, Int.reduceSub, Int.reduceMul, Int.reduceNeg]))
    refine hK _ _ ?_; clear hK K
    refine awp_ret ?_; simp only [thenQ, blockQ, bodyQ, aresult, ares, argF, AL, TY, aq, aint, astr, aWant, isPtr, abnd, ahi, alo, aload, rd, newObj, alit, aparts, astore, amapset, cellsOf, ev, avOf, av1, putF, upd, argF, TK.agg, aapp, asrc, one, aq.abuild, Nat.reduceEqDiff, Nat.reduceAdd, Nat.reduceLT, Nat.reduceLeDiff, Nat.reduceMul, Nat.reduceSub, reduceIte, reduceCtorEq, Int.reduceLE, Int.reduceToNat, Int.reduceLT, Int.reduceEq, Int.reduceAdd, Int.reduceSub, Int.reduceMul, Int.reduceNeg]; refine Gives.pure ?_
    rfl
end Go.Proofs.Ytnbokmbjiioooaa
