/- Chapter 13: the law TokenLongest. -/
import Derived.Test.YtcfapbmjaiipjaaDoorLn
set_option linter.unusedSimpArgs false
set_option linter.unusedVariables false
namespace Go.Proofs.YtcfapbmjaiipjaaDoor
open Go.Al
theorem u8_eq (a b : UInt8) : decide ((a.toNat : Int) = b.toNat) = (a == b) := by
  rw [Bool.eq_iff_iff]
  simp only [decide_eq_true_eq, beq_iff_eq]
  constructor
  · intro h; apply UInt8.toNat_inj.1; exact Int.ofNat.inj h
  · intro h; rw [h]
theorem inI_or (c : Int) : inI c = (digI c || alphI c || decide (c = 95)) := by
  simp only [inI]; cases alphI c <;> cases digI c <;> rfl
theorem goes_con (t : Tok) (a : UInt8) (tx : List UInt8) (htx : t.text = a :: tx) (c : UInt8) : PCon env 16 [.agg t.row, .int .u8 c.toNat] (.bool (goB t c)) := by
  refine con_of 75 [.tmp 4] Tryd.func16 rfl rfl rfl rfl ?_
  obtain ⟨k, _, n, p⟩ := t
  simp only at htx
  subst htx
  simp only [Tok.row]
  refine awp_cutK (fun fr H => ∃ b, fr 1 = .int .u8 c.toNat ∧ fr 2 = .ptr 4 b 0 0 ∧ H b = some (.rows 4 [[.int .i64 k, .str (a :: tx), .int .u32 n, .int .i64 p]])) (fun K hK => ?_) ?_
  · refine awp_region rfl ?_; simp only [AL, TY, aq, aint, astr, aWant, isPtr, abnd, ahi, alo, aload, rd, newObj, alit, aparts, astore, amapset, cellsOf, ev, avOf, av1, putF, upd, argF, TK.agg, aapp, asrc, one, aq.abuild, Nat.reduceEqDiff, Nat.reduceAdd, Nat.reduceLT, Nat.reduceLeDiff, Nat.reduceMul, Nat.reduceSub, reduceIte, reduceCtorEq, Int.reduceLE, Int.reduceToNat, Int.reduceLT, Int.reduceEq, Int.reduceAdd, Int.reduceSub, Int.reduceMul, Int.reduceNeg]
    refine awpN_intro fun b hb => ?_; simp only [AL, TY, aq, aint, astr, aWant, isPtr, abnd, ahi, alo, aload, rd, newObj, alit, aparts, astore, amapset, cellsOf, ev, avOf, av1, putF, upd, argF, TK.agg, aapp, asrc, one, aq.abuild, Nat.reduceEqDiff, Nat.reduceAdd, Nat.reduceLT, Nat.reduceLeDiff, Nat.reduceMul, Nat.reduceSub, reduceIte, reduceCtorEq, Int.reduceLE, Int.reduceToNat, Int.reduceLT, Int.reduceEq, Int.reduceAdd, Int.reduceSub, Int.reduceMul, Int.reduceNeg]
    exact hK _ _ ⟨b, rfl, rfl, upd_same _ _ _⟩
  · rintro fr H ⟨b, h1, h2, hb⟩
    refine awp_cutK (fun fr H => fr 5 = .bool (digI c.toNat) ∧ fr 1 = .int .u8 c.toNat ∧ fr 2 = .ptr 4 b 0 0 ∧ H b = some (.rows 4 [[.int .i64 k, .str (a :: tx), .int .u32 n, .int .i64 p]])) (fun K hK => ?_) ?_
    · refine awp_region rfl ?_; simp only [AL, TY, aq, aint, astr, aWant, isPtr, abnd, ahi, alo, aload, rd, newObj, alit, aparts, astore, amapset, cellsOf, ev, avOf, av1, putF, upd, argF, TK.agg, aapp, asrc, one, aq.abuild, Nat.reduceEqDiff, Nat.reduceAdd, Nat.reduceLT, Nat.reduceLeDiff, Nat.reduceMul, Nat.reduceSub, reduceIte, reduceCtorEq, Int.reduceLE, Int.reduceToNat, Int.reduceLT, Int.reduceEq, Int.reduceAdd, Int.reduceSub, Int.reduceMul, Int.reduceNeg]
      simp only [h1, AL, TY, aq, aint, astr, aWant, isPtr, abnd, ahi, alo, aload, rd, newObj, alit, aparts, astore, amapset, cellsOf, ev, avOf, av1, putF, upd, argF, TK.agg, aapp, asrc, one, aq.abuild, Nat.reduceEqDiff, Nat.reduceAdd, Nat.reduceLT, Nat.reduceLeDiff, Nat.reduceMul, Nat.reduceSub, reduceIte, reduceCtorEq, Int.reduceLE, Int.reduceToNat, Int.reduceLT, Int.reduceEq, Int.reduceAdd, Int.reduceSub, Int.reduceMul, Int.reduceNeg]
      repeat' ((first | refine awpG_splitN (fun h => ?_) (fun h => ?_) | refine awpG_split (fun h => ?_) (fun h => ?_)) <;> simp only [h, h1, AL, TY, aq, aint, astr, aWant, isPtr, abnd, ahi, alo, aload, rd, newObj, alit, aparts, astore, amapset, cellsOf, ev, avOf, av1, putF, upd, argF, TK.agg, aapp, asrc, one, aq.abuild, Nat.reduceEqDiff, Nat.reduceAdd, Nat.reduceLT, Nat.reduceLeDiff, Nat.reduceMul, Nat.reduceSub, reduceIte, reduceCtorEq, Int.reduceLE, Int.reduceToNat, Int.reduceLT, Int.reduceEq, Int.reduceAdd, Int.reduceSub, Int.reduceMul, Int.reduceNeg])
      all_goals exact hK _ _ ⟨by simp [upd, digI, *], h1, h2, hb⟩
    · rintro fr H ⟨h5, h1, h2, hb⟩
      refine awp_cutK (fun fr H => fr 6 = .bool (alphI c.toNat) ∧ fr 5 = .bool (digI c.toNat) ∧ fr 1 = .int .u8 c.toNat ∧ fr 2 = .ptr 4 b 0 0 ∧ H b = some (.rows 4 [[.int .i64 k, .str (a :: tx), .int .u32 n, .int .i64 p]])) (fun K hK => ?_) ?_
      · refine awp_region rfl ?_; simp only [AL, TY, aq, aint, astr, aWant, isPtr, abnd, ahi, alo, aload, rd, newObj, alit, aparts, astore, amapset, cellsOf, ev, avOf, av1, putF, upd, argF, TK.agg, aapp, asrc, one, aq.abuild, Nat.reduceEqDiff, Nat.reduceAdd, Nat.reduceLT, Nat.reduceLeDiff, Nat.reduceMul, Nat.reduceSub, reduceIte, reduceCtorEq, Int.reduceLE, Int.reduceToNat, Int.reduceLT, Int.reduceEq, Int.reduceAdd, Int.reduceSub, Int.reduceMul, Int.reduceNeg]
        simp only [h1, AL, TY, aq, aint, astr, aWant, isPtr, abnd, ahi, alo, aload, rd, newObj, alit, aparts, astore, amapset, cellsOf, ev, avOf, av1, putF, upd, argF, TK.agg, aapp, asrc, one, aq.abuild, Nat.reduceEqDiff, Nat.reduceAdd, Nat.reduceLT, Nat.reduceLeDiff, Nat.reduceMul, Nat.reduceSub, reduceIte, reduceCtorEq, Int.reduceLE, Int.reduceToNat, Int.reduceLT, Int.reduceEq, Int.reduceAdd, Int.reduceSub, Int.reduceMul, Int.reduceNeg]
        repeat' ((first | refine awpG_splitN (fun h => ?_) (fun h => ?_) | refine awpG_split (fun h => ?_) (fun h => ?_)) <;> simp only [h, h1, AL, TY, aq, aint, astr, aWant, isPtr, abnd, ahi, alo, aload, rd, newObj, alit, aparts, astore, amapset, cellsOf, ev, avOf, av1, putF, upd, argF, TK.agg, aapp, asrc, one, aq.abuild, Nat.reduceEqDiff, Nat.reduceAdd, Nat.reduceLT, Nat.reduceLeDiff, Nat.reduceMul, Nat.reduceSub, reduceIte, reduceCtorEq, Int.reduceLE, Int.reduceToNat, Int.reduceLT, Int.reduceEq, Int.reduceAdd, Int.reduceSub, Int.reduceMul, Int.reduceNeg])
        all_goals exact hK _ _ ⟨by simp [upd, alphI, *], h5, h1, h2, hb⟩
      · rintro fr H ⟨h6, h5, h1, h2, hb⟩
        refine awp_cutK (fun fr H => k ≠ 2 ∧ k ≠ 4 ∧ fr 6 = .bool (alphI c.toNat) ∧ fr 5 = .bool (digI c.toNat) ∧ fr 1 = .int .u8 c.toNat) (fun K hK => ?_) ?_
        · refine awp_seq_k fun K hK => ?_; refine awp_region rfl ?_; simp only [AL, TY, aq, aint, astr, aWant, isPtr, abnd, ahi, alo, aload, rd, newObj, alit, aparts, astore, amapset, cellsOf, ev, avOf, av1, putF, upd, argF, TK.agg, aapp, asrc, one, aq.abuild, Nat.reduceEqDiff, Nat.reduceAdd, Nat.reduceLT, Nat.reduceLeDiff, Nat.reduceMul, Nat.reduceSub, reduceIte, reduceCtorEq, Int.reduceLE, Int.reduceToNat, Int.reduceLT, Int.reduceEq, Int.reduceAdd, Int.reduceSub, Int.reduceMul, Int.reduceNeg]
          simp only [h2, hb, AL, TY, aq, aint, astr, aWant, isPtr, abnd, ahi, alo, aload, rd, newObj, alit, aparts, astore, amapset, cellsOf, ev, avOf, av1, putF, upd, argF, TK.agg, aapp, asrc, one, aq.abuild, Nat.reduceEqDiff, Nat.reduceAdd, Nat.reduceLT, Nat.reduceLeDiff, Nat.reduceMul, Nat.reduceSub, reduceIte, reduceCtorEq, Int.reduceLE, Int.reduceToNat, Int.reduceLT, Int.reduceEq, Int.reduceAdd, Int.reduceSub, Int.reduceMul, Int.reduceNeg]
          refine hK _ _ ?_; clear hK K
          refine awp_block ?_
          refine awp_seq_k fun K hK => ?_; refine awp_region rfl ?_; simp only [AL, TY, aq, aint, astr, aWant, isPtr, abnd, ahi, alo, aload, rd, newObj, alit, aparts, astore, amapset, cellsOf, ev, avOf, av1, putF, upd, argF, TK.agg, aapp, asrc, one, aq.abuild, Nat.reduceEqDiff, Nat.reduceAdd, Nat.reduceLT, Nat.reduceLeDiff, Nat.reduceMul, Nat.reduceSub, reduceIte, reduceCtorEq, Int.reduceLE, Int.reduceToNat, Int.reduceLT, Int.reduceEq, Int.reduceAdd, Int.reduceSub, Int.reduceMul, Int.reduceNeg]
          refine hK _ _ ?_; clear hK K
          refine awp_if _ rfl (fun hc => ?_) (fun hc => ?_)
          · have hk : k = 2 := of_decide_eq_true hc
            subst hk
            have hidx : ∀ x : Int, (if 0 ≤ x then (a :: tx)[x.toNat]? else none) = (if 0 ≤ x then (a :: tx)[x.toNat]? else none) := fun _ => rfl
            cases hd : digI c.toNat with
            | true =>
              refine awp_seq_k fun K hK => ?_; refine awp_region rfl ?_; simp only [AL, TY, aq, aint, astr, aWant, isPtr, abnd, ahi, alo, aload, rd, newObj, alit, aparts, astore, amapset, cellsOf, ev, avOf, av1, putF, upd, argF, TK.agg, aapp, asrc, one, aq.abuild, Nat.reduceEqDiff, Nat.reduceAdd, Nat.reduceLT, Nat.reduceLeDiff, Nat.reduceMul, Nat.reduceSub, reduceIte, reduceCtorEq, Int.reduceLE, Int.reduceToNat, Int.reduceLT, Int.reduceEq, Int.reduceAdd, Int.reduceSub, Int.reduceMul, Int.reduceNeg]
              simp only [h5, hd, h2, hb, AL, TY, aq, aint, astr, aWant, isPtr, abnd, ahi, alo, aload, rd, newObj, alit, aparts, astore, amapset, cellsOf, ev, avOf, av1, putF, upd, argF, TK.agg, aapp, asrc, one, aq.abuild, Nat.reduceEqDiff, Nat.reduceAdd, Nat.reduceLT, Nat.reduceLeDiff, Nat.reduceMul, Nat.reduceSub, reduceIte, reduceCtorEq, Int.reduceLE, Int.reduceToNat, Int.reduceLT, Int.reduceEq, Int.reduceAdd, Int.reduceSub, Int.reduceMul, Int.reduceNeg]
              refine hK _ _ ?_; clear hK K
              refine awp_ret ?_
              simp only [thenQ, blockQ, bodyQ, aresult, ares, argF, AL, TY, aq, aint, astr, aWant, isPtr, abnd, ahi, alo, aload, rd, newObj, alit, aparts, astore, amapset, cellsOf, ev, avOf, av1, putF, upd, argF, TK.agg, aapp, asrc, one, aq.abuild, Nat.reduceEqDiff, Nat.reduceAdd, Nat.reduceLT, Nat.reduceLeDiff, Nat.reduceMul, Nat.reduceSub, reduceIte, reduceCtorEq, Int.reduceLE, Int.reduceToNat, Int.reduceLT, Int.reduceEq, Int.reduceAdd, Int.reduceSub, Int.reduceMul, Int.reduceNeg]
              refine Gives.pure ?_
              have : isD c = true := hd
              have e39 : decide ((a.toNat : Int) = 39) = (a == 39) := u8_39
              simp only [goB, if_true, this, Bool.true_and, List.getElem?_cons_zero, e39]
              congr 2
              rw [Bool.eq_iff_iff]; simp
            | false =>
              refine awp_seq_k fun K hK => ?_; refine awp_region rfl ?_; simp only [AL, TY, aq, aint, astr, aWant, isPtr, abnd, ahi, alo, aload, rd, newObj, alit, aparts, astore, amapset, cellsOf, ev, avOf, av1, putF, upd, argF, TK.agg, aapp, asrc, one, aq.abuild, Nat.reduceEqDiff, Nat.reduceAdd, Nat.reduceLT, Nat.reduceLeDiff, Nat.reduceMul, Nat.reduceSub, reduceIte, reduceCtorEq, Int.reduceLE, Int.reduceToNat, Int.reduceLT, Int.reduceEq, Int.reduceAdd, Int.reduceSub, Int.reduceMul, Int.reduceNeg]
              simp only [h5, hd, h2, hb, AL, TY, aq, aint, astr, aWant, isPtr, abnd, ahi, alo, aload, rd, newObj, alit, aparts, astore, amapset, cellsOf, ev, avOf, av1, putF, upd, argF, TK.agg, aapp, asrc, one, aq.abuild, Nat.reduceEqDiff, Nat.reduceAdd, Nat.reduceLT, Nat.reduceLeDiff, Nat.reduceMul, Nat.reduceSub, reduceIte, reduceCtorEq, Int.reduceLE, Int.reduceToNat, Int.reduceLT, Int.reduceEq, Int.reduceAdd, Int.reduceSub, Int.reduceMul, Int.reduceNeg]
              refine hK _ _ ?_; clear hK K
              refine awp_ret ?_
              simp only [thenQ, blockQ, bodyQ, aresult, ares, argF, AL, TY, aq, aint, astr, aWant, isPtr, abnd, ahi, alo, aload, rd, newObj, alit, aparts, astore, amapset, cellsOf, ev, avOf, av1, putF, upd, argF, TK.agg, aapp, asrc, one, aq.abuild, Nat.reduceEqDiff, Nat.reduceAdd, Nat.reduceLT, Nat.reduceLeDiff, Nat.reduceMul, Nat.reduceSub, reduceIte, reduceCtorEq, Int.reduceLE, Int.reduceToNat, Int.reduceLT, Int.reduceEq, Int.reduceAdd, Int.reduceSub, Int.reduceMul, Int.reduceNeg]
              refine Gives.pure ?_
              have : isD c = false := hd
              simp only [goB, if_true, this, Bool.false_and]
          · have hk : k ≠ 2 := of_decide_eq_false hc
            refine awp_seq_k fun K hK => ?_; refine awp_region rfl ?_; simp only [AL, TY, aq, aint, astr, aWant, isPtr, abnd, ahi, alo, aload, rd, newObj, alit, aparts, astore, amapset, cellsOf, ev, avOf, av1, putF, upd, argF, TK.agg, aapp, asrc, one, aq.abuild, Nat.reduceEqDiff, Nat.reduceAdd, Nat.reduceLT, Nat.reduceLeDiff, Nat.reduceMul, Nat.reduceSub, reduceIte, reduceCtorEq, Int.reduceLE, Int.reduceToNat, Int.reduceLT, Int.reduceEq, Int.reduceAdd, Int.reduceSub, Int.reduceMul, Int.reduceNeg]
            refine hK _ _ ?_; clear hK K
            refine awp_if _ rfl (fun hc => ?_) (fun hc => ?_)
            · have hk4 : k = 4 := of_decide_eq_true hc
              subst hk4
              have e1 : decide ((c.toNat : Int) = a.toNat) = (c == a) := u8_eq c a
              cases htx : tx with
              | nil =>
                subst htx
                refine awp_seq_k fun K hK => ?_; refine awp_region rfl ?_; simp only [AL, TY, aq, aint, astr, aWant, isPtr, abnd, ahi, alo, aload, rd, newObj, alit, aparts, astore, amapset, cellsOf, ev, avOf, av1, putF, upd, argF, TK.agg, aapp, asrc, one, aq.abuild, Nat.reduceEqDiff, Nat.reduceAdd, Nat.reduceLT, Nat.reduceLeDiff, Nat.reduceMul, Nat.reduceSub, reduceIte, reduceCtorEq, Int.reduceLE, Int.reduceToNat, Int.reduceLT, Int.reduceEq, Int.reduceAdd, Int.reduceSub, Int.reduceMul, Int.reduceNeg]
                simp only [h1, h2, hb, AL, TY, aq, aint, astr, aWant, isPtr, abnd, ahi, alo, aload, rd, newObj, alit, aparts, astore, amapset, cellsOf, ev, avOf, av1, putF, upd, argF, TK.agg, aapp, asrc, one, aq.abuild, Nat.reduceEqDiff, Nat.reduceAdd, Nat.reduceLT, Nat.reduceLeDiff, Nat.reduceMul, Nat.reduceSub, reduceIte, reduceCtorEq, Int.reduceLE, Int.reduceToNat, Int.reduceLT, Int.reduceEq, Int.reduceAdd, Int.reduceSub, Int.reduceMul, Int.reduceNeg]
                repeat' ((first | refine awpG_splitN (fun h => ?_) (fun h => ?_) | refine awpG_split (fun h => ?_) (fun h => ?_)) <;> simp only [h, h1, h2, hb, AL, TY, aq, aint, astr, aWant, isPtr, abnd, ahi, alo, aload, rd, newObj, alit, aparts, astore, amapset, cellsOf, ev, avOf, av1, putF, upd, argF, TK.agg, aapp, asrc, one, aq.abuild, Nat.reduceEqDiff, Nat.reduceAdd, Nat.reduceLT, Nat.reduceLeDiff, Nat.reduceMul, Nat.reduceSub, reduceIte, reduceCtorEq, Int.reduceLE, Int.reduceToNat, Int.reduceLT, Int.reduceEq, Int.reduceAdd, Int.reduceSub, Int.reduceMul, Int.reduceNeg])
                all_goals
                  refine hK _ _ ?_; clear hK K
                  refine awp_ret ?_
                  simp only [thenQ, blockQ, bodyQ, aresult, ares, argF, AL, TY, aq, aint, astr, aWant, isPtr, abnd, ahi, alo, aload, rd, newObj, alit, aparts, astore, amapset, cellsOf, ev, avOf, av1, putF, upd, argF, TK.agg, aapp, asrc, one, aq.abuild, Nat.reduceEqDiff, Nat.reduceAdd, Nat.reduceLT, Nat.reduceLeDiff, Nat.reduceMul, Nat.reduceSub, reduceIte, reduceCtorEq, Int.reduceLE, Int.reduceToNat, Int.reduceLT, Int.reduceEq, Int.reduceAdd, Int.reduceSub, Int.reduceMul, Int.reduceNeg]
                  refine Gives.pure ?_
                  have e2 : ∀ n : UInt8, (c == n) = decide ((c.toNat : Int) = n.toNat) := fun n => (u8_eq c n).symm
                  have e3 : goB ⟨4, [a], n, p⟩ c = ((c == a) && (c == 60 || c == 61 || c == 38 || c == 124)) := by
                    simp only [goB, if_neg (show ¬ ((4 : Int) = 2) by decide), if_true]
                    congr 1
                    rw [Bool.eq_iff_iff]; simp only [decide_eq_true_eq, beq_iff_eq, List.cons.injEq, and_true]; exact eq_comm
                  rw [e3]
                  simp only [e2]
                  simp_all
              | cons d tx' =>
                have hlen : ¬ (((a :: d :: tx').length : Int) = 1) := by simp only [List.length_cons]; omega
                rw [htx] at hb
                have e3 : goB ⟨4, a :: d :: tx', n, p⟩ c = false := by simp [goB]
                refine awp_seq_k fun K hK => ?_; refine awp_region rfl ?_; simp only [AL, TY, aq, aint, astr, aWant, isPtr, abnd, ahi, alo, aload, rd, newObj, alit, aparts, astore, amapset, cellsOf, ev, avOf, av1, putF, upd, argF, TK.agg, aapp, asrc, one, aq.abuild, Nat.reduceEqDiff, Nat.reduceAdd, Nat.reduceLT, Nat.reduceLeDiff, Nat.reduceMul, Nat.reduceSub, reduceIte, reduceCtorEq, Int.reduceLE, Int.reduceToNat, Int.reduceLT, Int.reduceEq, Int.reduceAdd, Int.reduceSub, Int.reduceMul, Int.reduceNeg]
                simp only [h1, h2, hb, hlen, AL, TY, aq, aint, astr, aWant, isPtr, abnd, ahi, alo, aload, rd, newObj, alit, aparts, astore, amapset, cellsOf, ev, avOf, av1, putF, upd, argF, TK.agg, aapp, asrc, one, aq.abuild, Nat.reduceEqDiff, Nat.reduceAdd, Nat.reduceLT, Nat.reduceLeDiff, Nat.reduceMul, Nat.reduceSub, reduceIte, reduceCtorEq, Int.reduceLE, Int.reduceToNat, Int.reduceLT, Int.reduceEq, Int.reduceAdd, Int.reduceSub, Int.reduceMul, Int.reduceNeg]
                repeat' ((first | refine awpG_splitN (fun h => ?_) (fun h => ?_) | refine awpG_split (fun h => ?_) (fun h => ?_)) <;> simp only [h, h1, h2, hb, hlen, AL, TY, aq, aint, astr, aWant, isPtr, abnd, ahi, alo, aload, rd, newObj, alit, aparts, astore, amapset, cellsOf, ev, avOf, av1, putF, upd, argF, TK.agg, aapp, asrc, one, aq.abuild, Nat.reduceEqDiff, Nat.reduceAdd, Nat.reduceLT, Nat.reduceLeDiff, Nat.reduceMul, Nat.reduceSub, reduceIte, reduceCtorEq, Int.reduceLE, Int.reduceToNat, Int.reduceLT, Int.reduceEq, Int.reduceAdd, Int.reduceSub, Int.reduceMul, Int.reduceNeg])
                all_goals
                  try simp only [List.length_cons] at hlen
                  try simp only [hlen, AL, TY, aq, aint, astr, aWant, isPtr, abnd, ahi, alo, aload, rd, newObj, alit, aparts, astore, amapset, cellsOf, ev, avOf, av1, putF, upd, argF, TK.agg, aapp, asrc, one, aq.abuild, Nat.reduceEqDiff, Nat.reduceAdd, Nat.reduceLT, Nat.reduceLeDiff, Nat.reduceMul, Nat.reduceSub, reduceIte, reduceCtorEq, Int.reduceLE, Int.reduceToNat, Int.reduceLT, Int.reduceEq, Int.reduceAdd, Int.reduceSub, Int.reduceMul, Int.reduceNeg]
                  refine hK _ _ ?_; clear hK K
                  refine awp_ret ?_
                  simp only [thenQ, blockQ, bodyQ, aresult, ares, argF, AL, TY, aq, aint, astr, aWant, isPtr, abnd, ahi, alo, aload, rd, newObj, alit, aparts, astore, amapset, cellsOf, ev, avOf, av1, putF, upd, argF, TK.agg, aapp, asrc, one, aq.abuild, Nat.reduceEqDiff, Nat.reduceAdd, Nat.reduceLT, Nat.reduceLeDiff, Nat.reduceMul, Nat.reduceSub, reduceIte, reduceCtorEq, Int.reduceLE, Int.reduceToNat, Int.reduceLT, Int.reduceEq, Int.reduceAdd, Int.reduceSub, Int.reduceMul, Int.reduceNeg]
                  refine Gives.pure ?_
                  first
                    | (rw [e3]; done)
                    | (exfalso; clear hK; simp only [decide_eq_true_eq] at *; omega)
            · refine awp_skip ?_; simp only [thenQ, blockQ]
              exact hK _ _ ⟨hk, of_decide_eq_false hc, h6, h5, h1⟩
        · rintro fr H ⟨k2, k4, h6, h5, h1⟩
          refine awp_seq_k fun K hK => ?_; refine awp_region rfl ?_; simp only [AL, TY, aq, aint, astr, aWant, isPtr, abnd, ahi, alo, aload, rd, newObj, alit, aparts, astore, amapset, cellsOf, ev, avOf, av1, putF, upd, argF, TK.agg, aapp, asrc, one, aq.abuild, Nat.reduceEqDiff, Nat.reduceAdd, Nat.reduceLT, Nat.reduceLeDiff, Nat.reduceMul, Nat.reduceSub, reduceIte, reduceCtorEq, Int.reduceLE, Int.reduceToNat, Int.reduceLT, Int.reduceEq, Int.reduceAdd, Int.reduceSub, Int.reduceMul, Int.reduceNeg]
          simp only [h6, h5, h1, AL, TY, aq, aint, astr, aWant, isPtr, abnd, ahi, alo, aload, rd, newObj, alit, aparts, astore, amapset, cellsOf, ev, avOf, av1, putF, upd, argF, TK.agg, aapp, asrc, one, aq.abuild, Nat.reduceEqDiff, Nat.reduceAdd, Nat.reduceLT, Nat.reduceLeDiff, Nat.reduceMul, Nat.reduceSub, reduceIte, reduceCtorEq, Int.reduceLE, Int.reduceToNat, Int.reduceLT, Int.reduceEq, Int.reduceAdd, Int.reduceSub, Int.reduceMul, Int.reduceNeg]
          repeat' ((first | refine awpG_splitN (fun h => ?_) (fun h => ?_) | refine awpG_split (fun h => ?_) (fun h => ?_)) <;> simp only [h, h6, h5, h1, AL, TY, aq, aint, astr, aWant, isPtr, abnd, ahi, alo, aload, rd, newObj, alit, aparts, astore, amapset, cellsOf, ev, avOf, av1, putF, upd, argF, TK.agg, aapp, asrc, one, aq.abuild, Nat.reduceEqDiff, Nat.reduceAdd, Nat.reduceLT, Nat.reduceLeDiff, Nat.reduceMul, Nat.reduceSub, reduceIte, reduceCtorEq, Int.reduceLE, Int.reduceToNat, Int.reduceLT, Int.reduceEq, Int.reduceAdd, Int.reduceSub, Int.reduceMul, Int.reduceNeg])
          all_goals
            refine hK _ _ ?_; clear hK K
            refine awp_ret ?_; simp only [thenQ, blockQ, bodyQ, aresult, ares, argF, AL, TY, aq, aint, astr, aWant, isPtr, abnd, ahi, alo, aload, rd, newObj, alit, aparts, astore, amapset, cellsOf, ev, avOf, av1, putF, upd, argF, TK.agg, aapp, asrc, one, aq.abuild, Nat.reduceEqDiff, Nat.reduceAdd, Nat.reduceLT, Nat.reduceLeDiff, Nat.reduceMul, Nat.reduceSub, reduceIte, reduceCtorEq, Int.reduceLE, Int.reduceToNat, Int.reduceLT, Int.reduceEq, Int.reduceAdd, Int.reduceSub, Int.reduceMul, Int.reduceNeg]; refine Gives.pure ?_
            have e : goB ⟨k, a :: tx, n, p⟩ c = inI c.toNat := by simp only [goB, if_neg k2, if_neg k4]; rfl
            rw [e, inI_or]
            simp_all
theorem TokenLongest_con (s : List UInt8) : PCon env 7 [.str s] (.bool true) := by
  refine con_of 53 [.tmp 2] Tryd.func7 rfl rfl rfl rfl ?_
  refine awp_seq_k fun K hK => ?_; refine awp_region rfl ?_; simp only [AL, TY, aq, aint, astr, aWant, isPtr, abnd, ahi, alo, aload, rd, newObj, alit, aparts, astore, amapset, cellsOf, ev, avOf, av1, putF, upd, argF, TK.agg, aapp, asrc, one, aq.abuild, Nat.reduceEqDiff, Nat.reduceAdd, Nat.reduceLT, Nat.reduceLeDiff, Nat.reduceMul, Nat.reduceSub, reduceIte, reduceCtorEq, Int.reduceLE, Int.reduceToNat, Int.reduceLT, Int.reduceEq, Int.reduceAdd, Int.reduceSub, Int.reduceMul, Int.reduceNeg]
  refine hK _ _ ?_; clear hK K
  refine awp_seq ?_
  refine awp_seq_k fun K hK => ?_; refine awp_region rfl ?_; simp only [AL, TY, aq, aint, astr, aWant, isPtr, abnd, ahi, alo, aload, rd, newObj, alit, aparts, astore, amapset, cellsOf, ev, avOf, av1, putF, upd, argF, TK.agg, aapp, asrc, one, aq.abuild, Nat.reduceEqDiff, Nat.reduceAdd, Nat.reduceLT, Nat.reduceLeDiff, Nat.reduceMul, Nat.reduceSub, reduceIte, reduceCtorEq, Int.reduceLE, Int.reduceToNat, Int.reduceLT, Int.reduceEq, Int.reduceAdd, Int.reduceSub, Int.reduceMul, Int.reduceNeg]
  refine awpC_pure' alive_con ?_
  simp only [AL, TY, aq, aint, astr, aWant, isPtr, abnd, ahi, alo, aload, rd, newObj, alit, aparts, astore, amapset, cellsOf, ev, avOf, av1, putF, upd, argF, TK.agg, aapp, asrc, one, aq.abuild, Nat.reduceEqDiff, Nat.reduceAdd, Nat.reduceLT, Nat.reduceLeDiff, Nat.reduceMul, Nat.reduceSub, reduceIte, reduceCtorEq, Int.reduceLE, Int.reduceToNat, Int.reduceLT, Int.reduceEq, Int.reduceAdd, Int.reduceSub, Int.reduceMul, Int.reduceNeg]
  refine hK _ _ ?_; clear hK K
  refine awp_if false rfl (fun hc => by cases hc) (fun _ => ?_)
  refine awp_skip ?_; simp only [thenQ, blockQ]
  refine awp_seq ?_
  refine awp_seq_k fun K hK => ?_; refine awp_region rfl ?_; simp only [AL, TY, aq, aint, astr, aWant, isPtr, abnd, ahi, alo, aload, rd, newObj, alit, aparts, astore, amapset, cellsOf, ev, avOf, av1, putF, upd, argF, TK.agg, aapp, asrc, one, aq.abuild, Nat.reduceEqDiff, Nat.reduceAdd, Nat.reduceLT, Nat.reduceLeDiff, Nat.reduceMul, Nat.reduceSub, reduceIte, reduceCtorEq, Int.reduceLE, Int.reduceToNat, Int.reduceLT, Int.reduceEq, Int.reduceAdd, Int.reduceSub, Int.reduceMul, Int.reduceNeg]
  refine hK _ _ ?_; clear hK K
  refine awp_if _ rfl (fun hc => ?_) (fun hc => ?_)
  · refine awp_seq_k fun K hK => ?_; refine awp_region rfl ?_; simp only [AL, TY, aq, aint, astr, aWant, isPtr, abnd, ahi, alo, aload, rd, newObj, alit, aparts, astore, amapset, cellsOf, ev, avOf, av1, putF, upd, argF, TK.agg, aapp, asrc, one, aq.abuild, Nat.reduceEqDiff, Nat.reduceAdd, Nat.reduceLT, Nat.reduceLeDiff, Nat.reduceMul, Nat.reduceSub, reduceIte, reduceCtorEq, Int.reduceLE, Int.reduceToNat, Int.reduceLT, Int.reduceEq, Int.reduceAdd, Int.reduceSub, Int.reduceMul, Int.reduceNeg]
    refine hK _ _ ?_; clear hK K
    refine awp_ret ?_; simp only [thenQ, blockQ, bodyQ, aresult, ares, argF, AL, TY, aq, aint, astr, aWant, isPtr, abnd, ahi, alo, aload, rd, newObj, alit, aparts, astore, amapset, cellsOf, ev, avOf, av1, putF, upd, argF, TK.agg, aapp, asrc, one, aq.abuild, Nat.reduceEqDiff, Nat.reduceAdd, Nat.reduceLT, Nat.reduceLeDiff, Nat.reduceMul, Nat.reduceSub, reduceIte, reduceCtorEq, Int.reduceLE, Int.reduceToNat, Int.reduceLT, Int.reduceEq, Int.reduceAdd, Int.reduceSub, Int.reduceMul, Int.reduceNeg]; refine Gives.pure ?_
    rfl
  · have hs : s.length ≤ 400 := by have := of_decide_eq_false hc; omega
    have hbig := lexB (s := s) (by omega)
    refine awp_skip ?_; simp only [thenQ, blockQ]
    cases hl : lexS s with
    | error p =>
      have he : decide (p.2 = 0) = false := decide_eq_false (lexS_e0 (p := p.1) (e := p.2) hl)
      refine awp_seq_k fun K hK => ?_; refine awp_region rfl ?_; simp only [AL, TY, aq, aint, astr, aWant, isPtr, abnd, ahi, alo, aload, rd, newObj, alit, aparts, astore, amapset, cellsOf, ev, avOf, av1, putF, upd, argF, TK.agg, aapp, asrc, one, aq.abuild, Nat.reduceEqDiff, Nat.reduceAdd, Nat.reduceLT, Nat.reduceLeDiff, Nat.reduceMul, Nat.reduceSub, reduceIte, reduceCtorEq, Int.reduceLE, Int.reduceToNat, Int.reduceLT, Int.reduceEq, Int.reduceAdd, Int.reduceSub, Int.reduceMul, Int.reduceNeg]
      refine awpC_pure' (lexT_err s (by omega) (p := p.1) (e := p.2) hl) ?_; simp only [AL, TY, aq, aint, astr, aWant, isPtr, abnd, ahi, alo, aload, rd, newObj, alit, aparts, astore, amapset, cellsOf, ev, avOf, av1, putF, upd, argF, TK.agg, aapp, asrc, one, aq.abuild, Nat.reduceEqDiff, Nat.reduceAdd, Nat.reduceLT, Nat.reduceLeDiff, Nat.reduceMul, Nat.reduceSub, reduceIte, reduceCtorEq, Int.reduceLE, Int.reduceToNat, Int.reduceLT, Int.reduceEq, Int.reduceAdd, Int.reduceSub, Int.reduceMul, Int.reduceNeg]
      refine hK _ _ ?_; clear hK K
      refine awp_seq ?_
      refine awp_seq_k fun K hK => ?_; refine awp_region rfl ?_; simp only [AL, TY, aq, aint, astr, aWant, isPtr, abnd, ahi, alo, aload, rd, newObj, alit, aparts, astore, amapset, cellsOf, ev, avOf, av1, putF, upd, argF, TK.agg, aapp, asrc, one, aq.abuild, Nat.reduceEqDiff, Nat.reduceAdd, Nat.reduceLT, Nat.reduceLeDiff, Nat.reduceMul, Nat.reduceSub, reduceIte, reduceCtorEq, Int.reduceLE, Int.reduceToNat, Int.reduceLT, Int.reduceEq, Int.reduceAdd, Int.reduceSub, Int.reduceMul, Int.reduceNeg]
      simp only [he, AL, TY, aq, aint, astr, aWant, isPtr, abnd, ahi, alo, aload, rd, newObj, alit, aparts, astore, amapset, cellsOf, ev, avOf, av1, putF, upd, argF, TK.agg, aapp, asrc, one, aq.abuild, Nat.reduceEqDiff, Nat.reduceAdd, Nat.reduceLT, Nat.reduceLeDiff, Nat.reduceMul, Nat.reduceSub, reduceIte, reduceCtorEq, Int.reduceLE, Int.reduceToNat, Int.reduceLT, Int.reduceEq, Int.reduceAdd, Int.reduceSub, Int.reduceMul, Int.reduceNeg]
      refine hK _ _ ?_; clear hK K
      refine awp_if true rfl (fun _ => ?_) (fun hc => by cases hc)
      refine awp_seq_k fun K hK => ?_; refine awp_region rfl ?_; simp only [AL, TY, aq, aint, astr, aWant, isPtr, abnd, ahi, alo, aload, rd, newObj, alit, aparts, astore, amapset, cellsOf, ev, avOf, av1, putF, upd, argF, TK.agg, aapp, asrc, one, aq.abuild, Nat.reduceEqDiff, Nat.reduceAdd, Nat.reduceLT, Nat.reduceLeDiff, Nat.reduceMul, Nat.reduceSub, reduceIte, reduceCtorEq, Int.reduceLE, Int.reduceToNat, Int.reduceLT, Int.reduceEq, Int.reduceAdd, Int.reduceSub, Int.reduceMul, Int.reduceNeg]
      refine hK _ _ ?_; clear hK K
      refine awp_ret ?_; simp only [thenQ, blockQ, bodyQ, aresult, ares, argF, AL, TY, aq, aint, astr, aWant, isPtr, abnd, ahi, alo, aload, rd, newObj, alit, aparts, astore, amapset, cellsOf, ev, avOf, av1, putF, upd, argF, TK.agg, aapp, asrc, one, aq.abuild, Nat.reduceEqDiff, Nat.reduceAdd, Nat.reduceLT, Nat.reduceLeDiff, Nat.reduceMul, Nat.reduceSub, reduceIte, reduceCtorEq, Int.reduceLE, Int.reduceToNat, Int.reduceLT, Int.reduceEq, Int.reduceAdd, Int.reduceSub, Int.reduceMul, Int.reduceNeg]; refine Gives.pure ?_
      rfl
    | ok l =>
      rw [hl] at hbig
      have hll := lexS_len s
      rw [hl] at hll
      simp only [toksOf] at hll
      refine awp_seq_k fun K hK => ?_; refine awp_region rfl ?_; simp only [AL, TY, aq, aint, astr, aWant, isPtr, abnd, ahi, alo, aload, rd, newObj, alit, aparts, astore, amapset, cellsOf, ev, avOf, av1, putF, upd, argF, TK.agg, aapp, asrc, one, aq.abuild, Nat.reduceEqDiff, Nat.reduceAdd, Nat.reduceLT, Nat.reduceLeDiff, Nat.reduceMul, Nat.reduceSub, reduceIte, reduceCtorEq, Int.reduceLE, Int.reduceToNat, Int.reduceLT, Int.reduceEq, Int.reduceAdd, Int.reduceSub, Int.reduceMul, Int.reduceNeg]
      refine awpC_pure' (lexT_ok s (by omega) hl) ?_; simp only [AL, TY, aq, aint, astr, aWant, isPtr, abnd, ahi, alo, aload, rd, newObj, alit, aparts, astore, amapset, cellsOf, ev, avOf, av1, putF, upd, argF, TK.agg, aapp, asrc, one, aq.abuild, Nat.reduceEqDiff, Nat.reduceAdd, Nat.reduceLT, Nat.reduceLeDiff, Nat.reduceMul, Nat.reduceSub, reduceIte, reduceCtorEq, Int.reduceLE, Int.reduceToNat, Int.reduceLT, Int.reduceEq, Int.reduceAdd, Int.reduceSub, Int.reduceMul, Int.reduceNeg]
      refine hK _ _ ?_; clear hK K
      refine awp_seq ?_
      refine awp_seq_k fun K hK => ?_; refine awp_region rfl ?_; simp only [AL, TY, aq, aint, astr, aWant, isPtr, abnd, ahi, alo, aload, rd, newObj, alit, aparts, astore, amapset, cellsOf, ev, avOf, av1, putF, upd, argF, TK.agg, aapp, asrc, one, aq.abuild, Nat.reduceEqDiff, Nat.reduceAdd, Nat.reduceLT, Nat.reduceLeDiff, Nat.reduceMul, Nat.reduceSub, reduceIte, reduceCtorEq, Int.reduceLE, Int.reduceToNat, Int.reduceLT, Int.reduceEq, Int.reduceAdd, Int.reduceSub, Int.reduceMul, Int.reduceNeg]
      refine hK _ _ ?_; clear hK K
      refine awp_if false rfl (fun hc => by cases hc) (fun _ => ?_)
      refine awp_skip ?_; simp only [thenQ, blockQ]
      refine awp_cutK (fun fr H => True) (fun K hK => ?_) ?_
      · refine awp_seq_k fun K hK => ?_; refine awp_region rfl ?_; simp only [AL, TY, aq, aint, astr, aWant, isPtr, abnd, ahi, alo, aload, rd, newObj, alit, aparts, astore, amapset, cellsOf, ev, avOf, av1, putF, upd, argF, TK.agg, aapp, asrc, one, aq.abuild, Nat.reduceEqDiff, Nat.reduceAdd, Nat.reduceLT, Nat.reduceLeDiff, Nat.reduceMul, Nat.reduceSub, reduceIte, reduceCtorEq, Int.reduceLE, Int.reduceToNat, Int.reduceLT, Int.reduceEq, Int.reduceAdd, Int.reduceSub, Int.reduceMul, Int.reduceNeg]
        refine hK _ _ ?_; clear hK K
        refine awp_block ?_
        refine awp_loopK (fun n fr H => ∃ k to : Nat, n = l.length - k ∧ k ≤ l.length ∧ to ≤ s.length ∧ Big (s.drop to) to (.ok (l.drop k)) ∧ fr 0 = .str s ∧ fr 3 = .isl 4 (l.map Tok.row) ∧ fr 6 = .int .i64 k) l.length ⟨0, 0, rfl, by omega, by omega, hbig, rfl, rfl, rfl⟩ ?_
        rintro n fr H ⟨k, to, rfl, hk, hto, hb, h0, h3, h6⟩ K2 hK2
        refine awp_seq ?_
        refine awp_seq_k fun K hK => ?_; refine awp_region rfl ?_; simp only [AL, TY, aq, aint, astr, aWant, isPtr, abnd, ahi, alo, aload, rd, newObj, alit, aparts, astore, amapset, cellsOf, ev, avOf, av1, putF, upd, argF, TK.agg, aapp, asrc, one, aq.abuild, Nat.reduceEqDiff, Nat.reduceAdd, Nat.reduceLT, Nat.reduceLeDiff, Nat.reduceMul, Nat.reduceSub, reduceIte, reduceCtorEq, Int.reduceLE, Int.reduceToNat, Int.reduceLT, Int.reduceEq, Int.reduceAdd, Int.reduceSub, Int.reduceMul, Int.reduceNeg]
        simp only [h3, h6, List.length_map, AL, TY, aq, aint, astr, aWant, isPtr, abnd, ahi, alo, aload, rd, newObj, alit, aparts, astore, amapset, cellsOf, ev, avOf, av1, putF, upd, argF, TK.agg, aapp, asrc, one, aq.abuild, Nat.reduceEqDiff, Nat.reduceAdd, Nat.reduceLT, Nat.reduceLeDiff, Nat.reduceMul, Nat.reduceSub, reduceIte, reduceCtorEq, Int.reduceLE, Int.reduceToNat, Int.reduceLT, Int.reduceEq, Int.reduceAdd, Int.reduceSub, Int.reduceMul, Int.reduceNeg]
        refine hK _ _ ?_; clear hK K
        refine awp_if _ rfl (fun hc => ?_) (fun hc => ?_)
        · have hkl : k < l.length := by have := of_decide_eq_true hc; omega
          have hdr : l.drop k = l[k] :: l.drop (k + 1) := List.drop_eq_getElem_cons hkl
          have hg : (l.map Tok.row)[k]? = some l[k].row := by rw [List.getElem?_map, List.getElem?_eq_getElem hkl]; rfl
          rw [hdr] at hb
          generalize l[k] = t at hb hg
          obtain ⟨p, f1, f2, f3, f4, f5, f6, f7, f8, f9, f10, f11⟩ := stands_step hb hto
          have e3 : IntKind.wrap .i64 ((p : Int) + t.text.length) = ((p + t.text.length : Nat) : Int) := by rw [IntWalk.i64_in _ (by omega)]; omega
          refine awp_skip ?_; simp only [thenQ, blockQ]
          refine awp_seq ?_
          refine awp_block ?_
          refine awp_seq_k fun K hK => ?_
          refine awp_region_draw (fun _ => True) [(0, true), (1, true), (2, true), (3, true), (4, true), (5, true), (6, true), (7, true), (8, true), (9, true), (10, true), (11, true), (12, true)] draws (by kernel_rfl) rfl ?_
          simp only [emit, markOf, h3, h6, hg, Tok.row, f1, e3, AL, TY, aq, aint, astr, aWant, isPtr, abnd, ahi, alo, aload, rd, newObj, alit, aparts, astore, amapset, cellsOf, ev, avOf, av1, putF, upd, argF, TK.agg, aapp, asrc, one, aq.abuild, Nat.reduceEqDiff, Nat.reduceAdd, Nat.reduceLT, Nat.reduceLeDiff, Nat.reduceMul, Nat.reduceSub, reduceIte, reduceCtorEq, Int.reduceLE, Int.reduceToNat, Int.reduceLT, Int.reduceEq, Int.reduceAdd, Int.reduceSub, Int.reduceMul, Int.reduceNeg]
          refine hK _ _ ?_; clear hK K
          obtain ⟨a, tx, htx⟩ : ∃ a tx, t.text = a :: tx := by
            cases e : t.text with
            | nil => rw [e] at f3; exact absurd f3 (by decide)
            | cons a tx => exact ⟨a, tx, rfl⟩
          by_cases hto2 : p + t.text.length < s.length
          · have e4 : decide (((p + t.text.length : Nat) : Int) < s.length) = true := decide_eq_true (by omega)
            have e5 : s[p + t.text.length]? = some s[p + t.text.length] := List.getElem?_eq_getElem hto2
            have hgo := goes_con t a tx htx s[p + t.text.length]
            rw [f10 _ e5] at hgo
            simp only [Tok.row, f1] at hgo
            generalize s[p + t.text.length] = c at hgo e5
            refine awp_seq_k fun K hK => ?_
            refine awp_region_draw (fun _ => True) [(0, true), (1, true), (2, true), (3, true), (4, true), (5, true), (6, true), (7, true), (8, true), (9, true), (10, true), (11, true), (12, true), (13, true)] draws (by kernel_rfl) rfl ?_
            simp only [emit, markOf, h0, h3, h6, hg, Tok.row, f1, e4, e5, AL, TY, aq, aint, astr, aWant, isPtr, abnd, ahi, alo, aload, rd, newObj, alit, aparts, astore, amapset, cellsOf, ev, avOf, av1, putF, upd, argF, TK.agg, aapp, asrc, one, aq.abuild, Nat.reduceEqDiff, Nat.reduceAdd, Nat.reduceLT, Nat.reduceLeDiff, Nat.reduceMul, Nat.reduceSub, reduceIte, reduceCtorEq, Int.reduceLE, Int.reduceToNat, Int.reduceLT, Int.reduceEq, Int.reduceAdd, Int.reduceSub, Int.reduceMul, Int.reduceNeg]
            refine awpC_pure' hgo ?_
            simp only [AL, TY, aq, aint, astr, aWant, isPtr, abnd, ahi, alo, aload, rd, newObj, alit, aparts, astore, amapset, cellsOf, ev, avOf, av1, putF, upd, argF, TK.agg, aapp, asrc, one, aq.abuild, Nat.reduceEqDiff, Nat.reduceAdd, Nat.reduceLT, Nat.reduceLeDiff, Nat.reduceMul, Nat.reduceSub, reduceIte, reduceCtorEq, Int.reduceLE, Int.reduceToNat, Int.reduceLT, Int.reduceEq, Int.reduceAdd, Int.reduceSub, Int.reduceMul, Int.reduceNeg]
            refine hK _ _ ?_; clear hK K
            refine awp_if false rfl (fun hc => by cases hc) (fun _ => ?_)
            refine awp_skip ?_; simp only [thenQ, blockQ]
            refine awp_region rfl ?_; simp only [h6, thenQ, blockQ, AL, TY, aq, aint, astr, aWant, isPtr, abnd, ahi, alo, aload, rd, newObj, alit, aparts, astore, amapset, cellsOf, ev, avOf, av1, putF, upd, argF, TK.agg, aapp, asrc, one, aq.abuild, Nat.reduceEqDiff, Nat.reduceAdd, Nat.reduceLT, Nat.reduceLeDiff, Nat.reduceMul, Nat.reduceSub, reduceIte, reduceCtorEq, Int.reduceLE, Int.reduceToNat, Int.reduceLT, Int.reduceEq, Int.reduceAdd, Int.reduceSub, Int.reduceMul, Int.reduceNeg]
            rw [IntWalk.i64_in _ (by omega)]
            exact hK2 (l.length - (k + 1)) _ _ (by omega) ⟨k + 1, p + t.text.length, rfl, by omega, by omega, f11, h0, h3, rfl⟩
          · have e4 : decide (((p + t.text.length : Nat) : Int) < s.length) = false := decide_eq_false (by omega)
            refine awp_seq_k fun K hK => ?_
            refine awp_region_draw (fun _ => True) [(0, true), (1, true), (2, true), (3, true), (4, true), (5, true), (6, true), (7, true), (8, true), (9, true), (10, true), (11, true), (12, true), (13, true)] draws (by kernel_rfl) rfl ?_
            simp only [emit, markOf, h0, e4, AL, TY, aq, aint, astr, aWant, isPtr, abnd, ahi, alo, aload, rd, newObj, alit, aparts, astore, amapset, cellsOf, ev, avOf, av1, putF, upd, argF, TK.agg, aapp, asrc, one, aq.abuild, Nat.reduceEqDiff, Nat.reduceAdd, Nat.reduceLT, Nat.reduceLeDiff, Nat.reduceMul, Nat.reduceSub, reduceIte, reduceCtorEq, Int.reduceLE, Int.reduceToNat, Int.reduceLT, Int.reduceEq, Int.reduceAdd, Int.reduceSub, Int.reduceMul, Int.reduceNeg]
            refine hK _ _ ?_; clear hK K
            refine awp_if false rfl (fun hc => by cases hc) (fun _ => ?_)
            refine awp_skip ?_; simp only [thenQ, blockQ]
            refine awp_region rfl ?_; simp only [h6, thenQ, blockQ, AL, TY, aq, aint, astr, aWant, isPtr, abnd, ahi, alo, aload, rd, newObj, alit, aparts, astore, amapset, cellsOf, ev, avOf, av1, putF, upd, argF, TK.agg, aapp, asrc, one, aq.abuild, Nat.reduceEqDiff, Nat.reduceAdd, Nat.reduceLT, Nat.reduceLeDiff, Nat.reduceMul, Nat.reduceSub, reduceIte, reduceCtorEq, Int.reduceLE, Int.reduceToNat, Int.reduceLT, Int.reduceEq, Int.reduceAdd, Int.reduceSub, Int.reduceMul, Int.reduceNeg]
            rw [IntWalk.i64_in _ (by omega)]
            exact hK2 (l.length - (k + 1)) _ _ (by omega) ⟨k + 1, p + t.text.length, rfl, by omega, by omega, f11, h0, h3, rfl⟩
        · refine awp_exit ?_; simp only [thenQ, blockQ, reduceIte, Nat.reduceEqDiff]
          exact hK _ _ trivial
      · rintro fr H -
        refine awp_seq_k fun K hK => ?_; refine awp_region rfl ?_; simp only [AL, TY, aq, aint, astr, aWant, isPtr, abnd, ahi, alo, aload, rd, newObj, alit, aparts, astore, amapset, cellsOf, ev, avOf, av1, putF, upd, argF, TK.agg, aapp, asrc, one, aq.abuild, Nat.reduceEqDiff, Nat.reduceAdd, Nat.reduceLT, Nat.reduceLeDiff, Nat.reduceMul, Nat.reduceSub, reduceIte, reduceCtorEq, Int.reduceLE, Int.reduceToNat, Int.reduceLT, Int.reduceEq, Int.reduceAdd, Int.reduceSub, Int.reduceMul, Int.reduceNeg]
        refine hK _ _ ?_; clear hK K
        refine awp_ret ?_; simp only [thenQ, blockQ, bodyQ, aresult, ares, argF, AL, TY, aq, aint, astr, aWant, isPtr, abnd, ahi, alo, aload, rd, newObj, alit, aparts, astore, amapset, cellsOf, ev, avOf, av1, putF, upd, argF, TK.agg, aapp, asrc, one, aq.abuild, Nat.reduceEqDiff, Nat.reduceAdd, Nat.reduceLT, Nat.reduceLeDiff, Nat.reduceMul, Nat.reduceSub, reduceIte, reduceCtorEq, Int.reduceLE, Int.reduceToNat, Int.reduceLT, Int.reduceEq, Int.reduceAdd, Int.reduceSub, Int.reduceMul, Int.reduceNeg]; refine Gives.pure ?_
        rfl
end Go.Proofs.YtcfapbmjaiipjaaDoor
