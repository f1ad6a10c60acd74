/- Chapter 16, the program's: what names are in a function; find. -/
import Derived.Test.YtnbokmbjiioooaaS16h
set_option linter.unusedSimpArgs false
set_option linter.unusedVariables false
namespace Go.Al
theorem thK_app (k : Int) : ∀ (l m : List Str) (i : Nat), thK k i (l ++ m) = thK k i l ++ thK k (i + l.length) m
  | [], m, i => by simp [thK]
  | s :: l, m, i => by
    simp only [List.cons_append, thK, thK_app k l m (i + 1), List.length_cons]
    rw [show i + 1 + l.length = i + (l.length + 1) by omega]
theorem thK_take2 (k : Int) (a b : List Str) (j : Nat) (h : j < b.length) : thK k 0 (a ++ b.take (j + 1)) = thK k 0 (a ++ b.take j) ++ [⟨b[j], k, ((a.length + j : Nat) : Int)⟩] := by
  rw [thK_app, thK_app, thK_take k b _ j h, List.append_assoc, Nat.zero_add]
end Go.Al
namespace Go.Proofs.Ytnbokmbjiioooaa
open Go.Al
set_option maxHeartbeats 2000000 in
theorem locals_con (f : Fu) (hp : f.params.length ≤ 10000) (hl : f.locs.length ≤ 10000) : Con env 28 [.agg f.row] emp (fun ae H' => ∃ v, ae = .ret v ∧ ∃ b, v = .tup [.mp b, .bool (stT (locT f)).2] ∧ H' b = some (.amap ((stT (locT f)).1.map ent))) := by
  have hG : locT f = thK 1 0 (f.params ++ f.locs) := rfl
  generalize locT f = G at hG ⊢
  refine con_of 45 [.tmp 2, .tmp 3] Try.func28 rfl rfl rfl rfl ?_
  simp only [Fu.row]
  refine awp_cutK (fun fr H => ∃ b1, fr 1 = .ptr 5 b1 0 0 ∧ H b1 = some (.rows 5 [[.str f.name, .isl 1 (f.params.map strRow), .isl 1 (f.locs.map strRow), .bool f.word, .isl 5 (f.body.map Sm.row)]])) (fun K hK => ?_) ?_
  · refine awp_region rfl ?_; simp only [AL, TY, aq, aint, astr, aWant, isPtr, abnd, ahi, alo, aload, rd, newObj, alit, aparts, astore, amapset, cellsOf, ev, avOf, av1, putF, upd, argF, TK.agg, aapp, asrc, one, aq.abuild, Nat.reduceEqDiff, Nat.reduceAdd, Nat.reduceLT, Nat.reduceLeDiff, Nat.reduceMul, Nat.reduceSub, reduceIte, reduceCtorEq, Int.reduceLE, Int.reduceToNat, Int.reduceLT, Int.reduceEq, Int.reduceAdd, Int.reduceSub, Int.reduceMul, Int.reduceNeg]
    refine awpN_intro fun b1 hb1 => ?_
    simp only [AL, TY, aq, aint, astr, aWant, isPtr, abnd, ahi, alo, aload, rd, newObj, alit, aparts, astore, amapset, cellsOf, ev, avOf, av1, putF, upd, argF, TK.agg, aapp, asrc, one, aq.abuild, Nat.reduceEqDiff, Nat.reduceAdd, Nat.reduceLT, Nat.reduceLeDiff, Nat.reduceMul, Nat.reduceSub, reduceIte, reduceCtorEq, Int.reduceLE, Int.reduceToNat, Int.reduceLT, Int.reduceEq, Int.reduceAdd, Int.reduceSub, Int.reduceMul, Int.reduceNeg]
    exact hK _ _ ⟨b1, rfl, upd_same _ _ _⟩
  rintro fr H ⟨b1, f1, hb⟩
  refine awp_cutK (fun fr H => ∃ b bm bu, fr 1 = .ptr 5 b1 0 0 ∧ H b1 = some (.rows 5 [[.str f.name, .isl 1 (f.params.map strRow), .isl 1 (f.locs.map strRow), .bool f.word, .isl 5 (f.body.map Sm.row)]]) ∧ fr 4 = .ptr 1 bm 0 0 ∧ fr 5 = .ptr 1 bu 0 0 ∧ addI bm bu b [] true H) (fun K hK => ?_) ?_
  · refine awp_region rfl ?_; simp only [AL, TY, aq, aint, astr, aWant, isPtr, abnd, ahi, alo, aload, rd, newObj, alit, aparts, astore, amapset, cellsOf, ev, avOf, av1, putF, upd, argF, TK.agg, aapp, asrc, one, aq.abuild, Nat.reduceEqDiff, Nat.reduceAdd, Nat.reduceLT, Nat.reduceLeDiff, Nat.reduceMul, Nat.reduceSub, reduceIte, reduceCtorEq, Int.reduceLE, Int.reduceToNat, Int.reduceLT, Int.reduceEq, Int.reduceAdd, Int.reduceSub, Int.reduceMul, Int.reduceNeg]
    refine awpN_intro fun b hb0 => ?_
    simp only [AL, TY, aq, aint, astr, aWant, isPtr, abnd, ahi, alo, aload, rd, newObj, alit, aparts, astore, amapset, cellsOf, ev, avOf, av1, putF, upd, argF, TK.agg, aapp, asrc, one, aq.abuild, Nat.reduceEqDiff, Nat.reduceAdd, Nat.reduceLT, Nat.reduceLeDiff, Nat.reduceMul, Nat.reduceSub, reduceIte, reduceCtorEq, Int.reduceLE, Int.reduceToNat, Int.reduceLT, Int.reduceEq, Int.reduceAdd, Int.reduceSub, Int.reduceMul, Int.reduceNeg]
    refine awpN_intro fun bm hbm => ?_
    simp only [AL, TY, aq, aint, astr, aWant, isPtr, abnd, ahi, alo, aload, rd, newObj, alit, aparts, astore, amapset, cellsOf, ev, avOf, av1, putF, upd, argF, TK.agg, aapp, asrc, one, aq.abuild, Nat.reduceEqDiff, Nat.reduceAdd, Nat.reduceLT, Nat.reduceLeDiff, Nat.reduceMul, Nat.reduceSub, reduceIte, reduceCtorEq, Int.reduceLE, Int.reduceToNat, Int.reduceLT, Int.reduceEq, Int.reduceAdd, Int.reduceSub, Int.reduceMul, Int.reduceNeg]
    refine awpN_intro fun bu hbu => ?_
    simp only [AL, TY, aq, aint, astr, aWant, isPtr, abnd, ahi, alo, aload, rd, newObj, alit, aparts, astore, amapset, cellsOf, ev, avOf, av1, putF, upd, argF, TK.agg, aapp, asrc, one, aq.abuild, Nat.reduceEqDiff, Nat.reduceAdd, Nat.reduceLT, Nat.reduceLeDiff, Nat.reduceMul, Nat.reduceSub, reduceIte, reduceCtorEq, Int.reduceLE, Int.reduceToNat, Int.reduceLT, Int.reduceEq, Int.reduceAdd, Int.reduceSub, Int.reduceMul, Int.reduceNeg]
    have e1 : bm ≠ b := fun e => by rw [e, upd_same] at hbm; cases hbm
    have e2 : bu ≠ b := fun e => by
      rw [e] at hbu
      have : b ≠ bm := fun e => e1 e.symm
      simp only [upd, if_neg this, if_true] at hbu; cases hbu
    have e3 : bu ≠ bm := fun e => by rw [e, upd_same] at hbu; cases hbu
    have e4 : bm ≠ bu := fun e => e3 e.symm
    have q0 : b1 ≠ b := fun e => by rw [e, hb0] at hb; cases hb
    have q1 : b1 ≠ bm := fun e => by
      rw [← e] at hbm
      simp only [upd, if_neg q0] at hbm
      rw [hb] at hbm; cases hbm
    have q2 : b1 ≠ bu := fun e => by
      rw [← e] at hbu
      simp only [upd, if_neg q0, if_neg q1] at hbu
      rw [hb] at hbu; cases hbu
    have e5 : b ≠ bm := fun e => e1 e.symm
    have e6 : b ≠ bu := fun e => e2 e.symm
    simp only [upd, e1, e2, e3, e4, e5, e6, reduceIte, AL, TY, aq, aint, astr, aWant, isPtr, abnd, ahi, alo, aload, rd, newObj, alit, aparts, astore, amapset, cellsOf, ev, avOf, av1, putF, upd, argF, TK.agg, aapp, asrc, one, aq.abuild, Nat.reduceEqDiff, Nat.reduceAdd, Nat.reduceLT, Nat.reduceLeDiff, Nat.reduceMul, Nat.reduceSub, reduceIte, reduceCtorEq, Int.reduceLE, Int.reduceToNat, Int.reduceLT, Int.reduceEq, Int.reduceAdd, Int.reduceSub, Int.reduceMul, Int.reduceNeg]
    refine hK _ _ ⟨b, bm, bu, f1, ?_, rfl, rfl, ?_, ?_, ?_⟩
    · simp only [upd, if_neg q0, if_neg q1, if_neg q2]; exact hb
    · simp [upd, e4]
    · simp [upd]
    · simp [upd, e5, e6]
  rintro fr H ⟨b, bm, bu, f1, hb, f4, f5, hI⟩
  refine awp_seq_k fun K hK => ?_; refine awp_region rfl ?_; simp only [AL, TY, aq, aint, astr, aWant, isPtr, abnd, ahi, alo, aload, rd, newObj, alit, aparts, astore, amapset, cellsOf, ev, avOf, av1, putF, upd, argF, TK.agg, aapp, asrc, one, aq.abuild, Nat.reduceEqDiff, Nat.reduceAdd, Nat.reduceLT, Nat.reduceLeDiff, Nat.reduceMul, Nat.reduceSub, reduceIte, reduceCtorEq, Int.reduceLE, Int.reduceToNat, Int.reduceLT, Int.reduceEq, Int.reduceAdd, Int.reduceSub, Int.reduceMul, Int.reduceNeg]
  simp only [f4, f5, AL, TY, aq, aint, astr, aWant, isPtr, abnd, ahi, alo, aload, rd, newObj, alit, aparts, astore, amapset, cellsOf, ev, avOf, av1, putF, upd, argF, TK.agg, aapp, asrc, one, aq.abuild, Nat.reduceEqDiff, Nat.reduceAdd, Nat.reduceLT, Nat.reduceLeDiff, Nat.reduceMul, Nat.reduceSub, reduceIte, reduceCtorEq, Int.reduceLE, Int.reduceToNat, Int.reduceLT, Int.reduceEq, Int.reduceAdd, Int.reduceSub, Int.reduceMul, Int.reduceNeg]
  refine hK _ _ ?_; clear hK K
  refine awp_cutK (fun fr H => fr 1 = .ptr 5 b1 0 0 ∧ fr 4 = .ptr 1 bm 0 0 ∧ fr 5 = .ptr 1 bu 0 0 ∧ fr 6 = .fn (.func 47) [] [.ptr 1 bm 0 0, .ptr 1 bu 0 0] ∧ H b1 = some (.rows 5 [[.str f.name, .isl 1 (f.params.map strRow), .isl 1 (f.locs.map strRow), .bool f.word, .isl 5 (f.body.map Sm.row)]]) ∧ addI bm bu b (stT (thK 1 0 (f.params))).1 (stT (thK 1 0 (f.params))).2 H) (fun K hK => ?_) ?_
  · refine awp_seq_k fun K hK => ?_; refine awp_region rfl ?_; simp only [AL, TY, aq, aint, astr, aWant, isPtr, abnd, ahi, alo, aload, rd, newObj, alit, aparts, astore, amapset, cellsOf, ev, avOf, av1, putF, upd, argF, TK.agg, aapp, asrc, one, aq.abuild, Nat.reduceEqDiff, Nat.reduceAdd, Nat.reduceLT, Nat.reduceLeDiff, Nat.reduceMul, Nat.reduceSub, reduceIte, reduceCtorEq, Int.reduceLE, Int.reduceToNat, Int.reduceLT, Int.reduceEq, Int.reduceAdd, Int.reduceSub, Int.reduceMul, Int.reduceNeg]
    simp only [f1, hb, List.length_map, AL, TY, aq, aint, astr, aWant, isPtr, abnd, ahi, alo, aload, rd, newObj, alit, aparts, astore, amapset, cellsOf, ev, avOf, av1, putF, upd, argF, TK.agg, aapp, asrc, one, aq.abuild, Nat.reduceEqDiff, Nat.reduceAdd, Nat.reduceLT, Nat.reduceLeDiff, Nat.reduceMul, Nat.reduceSub, reduceIte, reduceCtorEq, Int.reduceLE, Int.reduceToNat, Int.reduceLT, Int.reduceEq, Int.reduceAdd, Int.reduceSub, Int.reduceMul, Int.reduceNeg]
    refine hK _ _ ?_; clear hK K
    refine awp_block ?_
    refine awp_loopK (fun mm fr H => ∃ k : Nat, mm = f.params.length - k ∧ k ≤ f.params.length ∧ fr 16 = .int .i64 k ∧ fr 14 = .isl 1 (f.params.map strRow) ∧ fr 15 = .int .i64 f.params.length ∧ fr 1 = .ptr 5 b1 0 0 ∧ fr 4 = .ptr 1 bm 0 0 ∧ fr 5 = .ptr 1 bu 0 0 ∧ fr 6 = .fn (.func 47) [] [.ptr 1 bm 0 0, .ptr 1 bu 0 0] ∧ H b1 = some (.rows 5 [[.str f.name, .isl 1 (f.params.map strRow), .isl 1 (f.locs.map strRow), .bool f.word, .isl 5 (f.body.map Sm.row)]]) ∧ addI bm bu b (stT (thK 1 0 (f.params.take k))).1 (stT (thK 1 0 (f.params.take k))).2 H) (f.params.length) ⟨0, rfl, Nat.zero_le _, rfl, rfl, rfl, f1, f4, f5, rfl, hb, hI⟩ ?_
    rintro mm fr H ⟨k, rfl, hkk, hik, fS, fL, f1, f4, f5, f6, hb, hI⟩ K2 hK2
    refine awp_seq_k fun K hK => ?_; refine awp_region rfl ?_; simp only [AL, TY, aq, aint, astr, aWant, isPtr, abnd, ahi, alo, aload, rd, newObj, alit, aparts, astore, amapset, cellsOf, ev, avOf, av1, putF, upd, argF, TK.agg, aapp, asrc, one, aq.abuild, Nat.reduceEqDiff, Nat.reduceAdd, Nat.reduceLT, Nat.reduceLeDiff, Nat.reduceMul, Nat.reduceSub, reduceIte, reduceCtorEq, Int.reduceLE, Int.reduceToNat, Int.reduceLT, Int.reduceEq, Int.reduceAdd, Int.reduceSub, Int.reduceMul, Int.reduceNeg]
    simp only [hik, fL,List.length_map, AL, TY, aq, aint, astr, aWant, isPtr, abnd, ahi, alo, aload, rd, newObj, alit, aparts, astore, amapset, cellsOf, ev, avOf, av1, putF, upd, argF, TK.agg, aapp, asrc, one, aq.abuild, Nat.reduceEqDiff, Nat.reduceAdd, Nat.reduceLT, Nat.reduceLeDiff, Nat.reduceMul, Nat.reduceSub, reduceIte, reduceCtorEq, Int.reduceLE, Int.reduceToNat, Int.reduceLT, Int.reduceEq, Int.reduceAdd, Int.reduceSub, Int.reduceMul, Int.reduceNeg]
    refine hK _ _ ?_; clear hK K
    refine awp_seq ?_
    refine awp_if _ rfl (fun hc => ?_) (fun hc => ?_)
    · have hltk : k < f.params.length := by have := of_decide_eq_true hc; omega
      clear hc
      refine awp_skip ?_; simp only [thenQ, blockQ]
      refine awp_seq ?_
      refine awp_block ?_
      have hg := getN (List.getElem?_eq_getElem hltk)
      have htk := thK_take 1 f.params 0 k hltk
      rw [Nat.zero_add] at htk
      generalize f.params[k] = s at hg htk
      refine awp_seq_k fun K hK => ?_; refine awp_region rfl ?_; simp only [AL, TY, aq, aint, astr, aWant, isPtr, abnd, ahi, alo, aload, rd, newObj, alit, aparts, astore, amapset, cellsOf, ev, avOf, av1, putF, upd, argF, TK.agg, aapp, asrc, one, aq.abuild, Nat.reduceEqDiff, Nat.reduceAdd, Nat.reduceLT, Nat.reduceLeDiff, Nat.reduceMul, Nat.reduceSub, reduceIte, reduceCtorEq, Int.reduceLE, Int.reduceToNat, Int.reduceLT, Int.reduceEq, Int.reduceAdd, Int.reduceSub, Int.reduceMul, Int.reduceNeg]
      simp only [hik, fS, hg, AL, TY, aq, aint, astr, aWant, isPtr, abnd, ahi, alo, aload, rd, newObj, alit, aparts, astore, amapset, cellsOf, ev, avOf, av1, putF, upd, argF, TK.agg, aapp, asrc, one, aq.abuild, Nat.reduceEqDiff, Nat.reduceAdd, Nat.reduceLT, Nat.reduceLeDiff, Nat.reduceMul, Nat.reduceSub, reduceIte, reduceCtorEq, Int.reduceLE, Int.reduceToNat, Int.reduceLT, Int.reduceEq, Int.reduceAdd, Int.reduceSub, Int.reduceMul, Int.reduceNeg]
      refine hK _ _ ?_; clear hK K
      refine awp_region rfl ?_
      simp only [f6, AL, TY, aq, aint, astr, aWant, isPtr, abnd, ahi, alo, aload, rd, newObj, alit, aparts, astore, amapset, cellsOf, ev, avOf, av1, putF, upd, argF, TK.agg, aapp, asrc, one, aq.abuild, Nat.reduceEqDiff, Nat.reduceAdd, Nat.reduceLT, Nat.reduceLeDiff, Nat.reduceMul, Nat.reduceSub, reduceIte, reduceCtorEq, Int.reduceLE, Int.reduceToNat, Int.reduceLT, Int.reduceEq, Int.reduceAdd, Int.reduceSub, Int.reduceMul, Int.reduceNeg]
      refine awpC_whole (ladd_con s k bm bu b _ _ _ hI) (SubL.refl _) (fun _ => trivial) fun v H' ⟨hv, hI', hkp⟩ => ?_
      subst hv
      simp only [thenQ, blockQ, AL, TY, aq, aint, astr, aWant, isPtr, abnd, ahi, alo, aload, rd, newObj, alit, aparts, astore, amapset, cellsOf, ev, avOf, av1, putF, upd, argF, TK.agg, aapp, asrc, one, aq.abuild, Nat.reduceEqDiff, Nat.reduceAdd, Nat.reduceLT, Nat.reduceLeDiff, Nat.reduceMul, Nat.reduceSub, reduceIte, reduceCtorEq, Int.reduceLE, Int.reduceToNat, Int.reduceLT, Int.reduceEq, Int.reduceAdd, Int.reduceSub, Int.reduceMul, Int.reduceNeg]
      refine awp_region rfl ?_; simp only [AL, TY, aq, aint, astr, aWant, isPtr, abnd, ahi, alo, aload, rd, newObj, alit, aparts, astore, amapset, cellsOf, ev, avOf, av1, putF, upd, argF, TK.agg, aapp, asrc, one, aq.abuild, Nat.reduceEqDiff, Nat.reduceAdd, Nat.reduceLT, Nat.reduceLeDiff, Nat.reduceMul, Nat.reduceSub, reduceIte, reduceCtorEq, Int.reduceLE, Int.reduceToNat, Int.reduceLT, Int.reduceEq, Int.reduceAdd, Int.reduceSub, Int.reduceMul, Int.reduceNeg]
      simp only [hik, thenQ, blockQ, AL, TY, aq, aint, astr, aWant, isPtr, abnd, ahi, alo, aload, rd, newObj, alit, aparts, astore, amapset, cellsOf, ev, avOf, av1, putF, upd, argF, TK.agg, aapp, asrc, one, aq.abuild, Nat.reduceEqDiff, Nat.reduceAdd, Nat.reduceLT, Nat.reduceLeDiff, Nat.reduceMul, Nat.reduceSub, reduceIte, reduceCtorEq, Int.reduceLE, Int.reduceToNat, Int.reduceLT, Int.reduceEq, Int.reduceAdd, Int.reduceSub, Int.reduceMul, Int.reduceNeg]
      rw [IntWalk.i64_in _ (by omega)]
      refine hK2 (f.params.length - (k + 1)) _ _ (by omega) ⟨k + 1, rfl, by omega, rfl, fS, fL, f1, f4, f5, f6, hkp b1 _ (addI_ne hI hb (by decide)) hb, by rw [htk, stT_app]; exact hI'⟩
    · refine awp_exit ?_; simp only [thenQ, blockQ, reduceIte, Nat.reduceEqDiff]
      have hknk : k = f.params.length := by have := of_decide_eq_false hc; omega
      clear hc
      subst hknk
      rw [List.take_length] at hI
      exact hK _ _ ⟨f1, f4, f5, f6, hb, hI⟩
  rintro fr H ⟨f1, f4, f5, f6, hb, hI⟩
  refine awp_cutK (fun fr H => fr 1 = .ptr 5 b1 0 0 ∧ fr 4 = .ptr 1 bm 0 0 ∧ fr 5 = .ptr 1 bu 0 0 ∧ fr 6 = .fn (.func 47) [] [.ptr 1 bm 0 0, .ptr 1 bu 0 0] ∧ H b1 = some (.rows 5 [[.str f.name, .isl 1 (f.params.map strRow), .isl 1 (f.locs.map strRow), .bool f.word, .isl 5 (f.body.map Sm.row)]]) ∧ addI bm bu b (stT (thK 1 0 (f.params ++ f.locs))).1 (stT (thK 1 0 (f.params ++ f.locs))).2 H) (fun K hK => ?_) ?_
  · refine awp_seq_k fun K hK => ?_; refine awp_region rfl ?_; simp only [AL, TY, aq, aint, astr, aWant, isPtr, abnd, ahi, alo, aload, rd, newObj, alit, aparts, astore, amapset, cellsOf, ev, avOf, av1, putF, upd, argF, TK.agg, aapp, asrc, one, aq.abuild, Nat.reduceEqDiff, Nat.reduceAdd, Nat.reduceLT, Nat.reduceLeDiff, Nat.reduceMul, Nat.reduceSub, reduceIte, reduceCtorEq, Int.reduceLE, Int.reduceToNat, Int.reduceLT, Int.reduceEq, Int.reduceAdd, Int.reduceSub, Int.reduceMul, Int.reduceNeg]
    simp only [f1, hb, List.length_map, AL, TY, aq, aint, astr, aWant, isPtr, abnd, ahi, alo, aload, rd, newObj, alit, aparts, astore, amapset, cellsOf, ev, avOf, av1, putF, upd, argF, TK.agg, aapp, asrc, one, aq.abuild, Nat.reduceEqDiff, Nat.reduceAdd, Nat.reduceLT, Nat.reduceLeDiff, Nat.reduceMul, Nat.reduceSub, reduceIte, reduceCtorEq, Int.reduceLE, Int.reduceToNat, Int.reduceLT, Int.reduceEq, Int.reduceAdd, Int.reduceSub, Int.reduceMul, Int.reduceNeg]
    refine hK _ _ ?_; clear hK K
    refine awp_block ?_
    refine awp_loopK (fun mm fr H => ∃ k : Nat, mm = f.locs.length - k ∧ k ≤ f.locs.length ∧ fr 29 = .int .i64 k ∧ fr 27 = .isl 1 (f.locs.map strRow) ∧ fr 28 = .int .i64 f.locs.length ∧ fr 1 = .ptr 5 b1 0 0 ∧ fr 4 = .ptr 1 bm 0 0 ∧ fr 5 = .ptr 1 bu 0 0 ∧ fr 6 = .fn (.func 47) [] [.ptr 1 bm 0 0, .ptr 1 bu 0 0] ∧ H b1 = some (.rows 5 [[.str f.name, .isl 1 (f.params.map strRow), .isl 1 (f.locs.map strRow), .bool f.word, .isl 5 (f.body.map Sm.row)]]) ∧ addI bm bu b (stT (thK 1 0 (f.params ++ f.locs.take k))).1 (stT (thK 1 0 (f.params ++ f.locs.take k))).2 H) (f.locs.length) ⟨0, rfl, Nat.zero_le _, rfl, rfl, rfl, f1, f4, f5, f6, hb, by rw [List.take_zero, List.append_nil]; exact hI⟩ ?_
    rintro mm fr H ⟨k, rfl, hkk, hik, fS, fL, f1, f4, f5, f6, hb, hI⟩ K2 hK2
    refine awp_seq_k fun K hK => ?_; refine awp_region rfl ?_; simp only [AL, TY, aq, aint, astr, aWant, isPtr, abnd, ahi, alo, aload, rd, newObj, alit, aparts, astore, amapset, cellsOf, ev, avOf, av1, putF, upd, argF, TK.agg, aapp, asrc, one, aq.abuild, Nat.reduceEqDiff, Nat.reduceAdd, Nat.reduceLT, Nat.reduceLeDiff, Nat.reduceMul, Nat.reduceSub, reduceIte, reduceCtorEq, Int.reduceLE, Int.reduceToNat, Int.reduceLT, Int.reduceEq, Int.reduceAdd, Int.reduceSub, Int.reduceMul, Int.reduceNeg]
    simp only [hik, fL,List.length_map, AL, TY, aq, aint, astr, aWant, isPtr, abnd, ahi, alo, aload, rd, newObj, alit, aparts, astore, amapset, cellsOf, ev, avOf, av1, putF, upd, argF, TK.agg, aapp, asrc, one, aq.abuild, Nat.reduceEqDiff, Nat.reduceAdd, Nat.reduceLT, Nat.reduceLeDiff, Nat.reduceMul, Nat.reduceSub, reduceIte, reduceCtorEq, Int.reduceLE, Int.reduceToNat, Int.reduceLT, Int.reduceEq, Int.reduceAdd, Int.reduceSub, Int.reduceMul, Int.reduceNeg]
    refine hK _ _ ?_; clear hK K
    refine awp_seq ?_
    refine awp_if _ rfl (fun hc => ?_) (fun hc => ?_)
    · have hltk : k < f.locs.length := by have := of_decide_eq_true hc; omega
      clear hc
      refine awp_skip ?_; simp only [thenQ, blockQ]
      refine awp_seq ?_
      refine awp_block ?_
      have hg := getN (List.getElem?_eq_getElem hltk)
      have htk := thK_take2 1 f.params f.locs k hltk
      have w1 : IntKind.wrap .i64 ((f.params.length : Int) + k) = ((f.params.length + k : Nat) : Int) := by rw [IntWalk.i64_in _ (by omega)]; omega
      generalize f.locs[k] = s at hg htk
      refine awp_seq_k fun K hK => ?_; refine awp_region rfl ?_; simp only [AL, TY, aq, aint, astr, aWant, isPtr, abnd, ahi, alo, aload, rd, newObj, alit, aparts, astore, amapset, cellsOf, ev, avOf, av1, putF, upd, argF, TK.agg, aapp, asrc, one, aq.abuild, Nat.reduceEqDiff, Nat.reduceAdd, Nat.reduceLT, Nat.reduceLeDiff, Nat.reduceMul, Nat.reduceSub, reduceIte, reduceCtorEq, Int.reduceLE, Int.reduceToNat, Int.reduceLT, Int.reduceEq, Int.reduceAdd, Int.reduceSub, Int.reduceMul, Int.reduceNeg]
      simp only [hik, fS, hg, AL, TY, aq, aint, astr, aWant, isPtr, abnd, ahi, alo, aload, rd, newObj, alit, aparts, astore, amapset, cellsOf, ev, avOf, av1, putF, upd, argF, TK.agg, aapp, asrc, one, aq.abuild, Nat.reduceEqDiff, Nat.reduceAdd, Nat.reduceLT, Nat.reduceLeDiff, Nat.reduceMul, Nat.reduceSub, reduceIte, reduceCtorEq, Int.reduceLE, Int.reduceToNat, Int.reduceLT, Int.reduceEq, Int.reduceAdd, Int.reduceSub, Int.reduceMul, Int.reduceNeg]
      refine hK _ _ ?_; clear hK K
      refine awp_region rfl ?_
      simp only [f6, f1, hb, w1, List.length_map, AL, TY, aq, aint, astr, aWant, isPtr, abnd, ahi, alo, aload, rd, newObj, alit, aparts, astore, amapset, cellsOf, ev, avOf, av1, putF, upd, argF, TK.agg, aapp, asrc, one, aq.abuild, Nat.reduceEqDiff, Nat.reduceAdd, Nat.reduceLT, Nat.reduceLeDiff, Nat.reduceMul, Nat.reduceSub, reduceIte, reduceCtorEq, Int.reduceLE, Int.reduceToNat, Int.reduceLT, Int.reduceEq, Int.reduceAdd, Int.reduceSub, Int.reduceMul, Int.reduceNeg]
      refine awpC_whole (ladd_con s ((f.params.length + k : Nat) : Int) bm bu b _ _ _ hI) (SubL.refl _) (fun _ => trivial) fun v H' ⟨hv, hI', hkp⟩ => ?_
      subst hv
      simp only [thenQ, blockQ, AL, TY, aq, aint, astr, aWant, isPtr, abnd, ahi, alo, aload, rd, newObj, alit, aparts, astore, amapset, cellsOf, ev, avOf, av1, putF, upd, argF, TK.agg, aapp, asrc, one, aq.abuild, Nat.reduceEqDiff, Nat.reduceAdd, Nat.reduceLT, Nat.reduceLeDiff, Nat.reduceMul, Nat.reduceSub, reduceIte, reduceCtorEq, Int.reduceLE, Int.reduceToNat, Int.reduceLT, Int.reduceEq, Int.reduceAdd, Int.reduceSub, Int.reduceMul, Int.reduceNeg]
      refine awp_region rfl ?_; simp only [AL, TY, aq, aint, astr, aWant, isPtr, abnd, ahi, alo, aload, rd, newObj, alit, aparts, astore, amapset, cellsOf, ev, avOf, av1, putF, upd, argF, TK.agg, aapp, asrc, one, aq.abuild, Nat.reduceEqDiff, Nat.reduceAdd, Nat.reduceLT, Nat.reduceLeDiff, Nat.reduceMul, Nat.reduceSub, reduceIte, reduceCtorEq, Int.reduceLE, Int.reduceToNat, Int.reduceLT, Int.reduceEq, Int.reduceAdd, Int.reduceSub, Int.reduceMul, Int.reduceNeg]
      simp only [hik, thenQ, blockQ, AL, TY, aq, aint, astr, aWant, isPtr, abnd, ahi, alo, aload, rd, newObj, alit, aparts, astore, amapset, cellsOf, ev, avOf, av1, putF, upd, argF, TK.agg, aapp, asrc, one, aq.abuild, Nat.reduceEqDiff, Nat.reduceAdd, Nat.reduceLT, Nat.reduceLeDiff, Nat.reduceMul, Nat.reduceSub, reduceIte, reduceCtorEq, Int.reduceLE, Int.reduceToNat, Int.reduceLT, Int.reduceEq, Int.reduceAdd, Int.reduceSub, Int.reduceMul, Int.reduceNeg]
      rw [IntWalk.i64_in _ (by omega)]
      refine hK2 (f.locs.length - (k + 1)) _ _ (by omega) ⟨k + 1, rfl, by omega, rfl, fS, fL, f1, f4, f5, f6, hkp b1 _ (addI_ne hI hb (by decide)) hb, by rw [htk, stT_app]; exact hI'⟩
    · refine awp_exit ?_; simp only [thenQ, blockQ, reduceIte, Nat.reduceEqDiff]
      have hknk : k = f.locs.length := by have := of_decide_eq_false hc; omega
      clear hc
      subst hknk
      rw [List.take_length] at hI
      exact hK _ _ ⟨f1, f4, f5, f6, hb, hI⟩
  rintro fr H ⟨f1, f4, f5, f6, hb, hI⟩
  rw [← hG] at hI
  obtain ⟨i1, i2, i3⟩ := hI
  refine awp_seq_k fun K hK => ?_
  refine awp_region_draw (fun x => x ≠ bm ∧ x ≠ bu) [(0, true), (1, true), (2, true), (3, true)] draws (by kernel_rfl) rfl ?_
  simp only [emit, markOf, f4, f5, i1, i2, awpL_entry, touch_ptr, AL, TY, aq, aint, astr, aWant, isPtr, abnd, ahi, alo, aload, rd, newObj, alit, aparts, astore, amapset, cellsOf, ev, avOf, av1, putF, upd, argF, TK.agg, aapp, asrc, one, aq.abuild, Nat.reduceEqDiff, Nat.reduceAdd, Nat.reduceLT, Nat.reduceLeDiff, Nat.reduceMul, Nat.reduceSub, reduceIte, reduceCtorEq, Int.reduceLE, Int.reduceToNat, Int.reduceLT, Int.reduceEq, Int.reduceAdd, Int.reduceSub, Int.reduceMul, Int.reduceNeg]
  refine hK _ _ ?_; clear hK K
  refine awp_ret ?_
  simp only [thenQ, blockQ, bodyQ, aresult, ares, argF, AL, TY, aq, aint, astr, aWant, isPtr, abnd, ahi, alo, aload, rd, newObj, alit, aparts, astore, amapset, cellsOf, ev, avOf, av1, putF, upd, argF, TK.agg, aapp, asrc, one, aq.abuild, Nat.reduceEqDiff, Nat.reduceAdd, Nat.reduceLT, Nat.reduceLeDiff, Nat.reduceMul, Nat.reduceSub, reduceIte, reduceCtorEq, Int.reduceLE, Int.reduceToNat, Int.reduceLT, Int.reduceEq, Int.reduceAdd, Int.reduceSub, Int.reduceMul, Int.reduceNeg]
  exact Gives.whole ⟨b, rfl, i3⟩
/-- what a name is, by both maps -/
def findM (mo mi : List Th) (s : Str) : Int × Int := match lookT mi s with | some r => r | none => match lookT mo s with | some r => r | none => (0, -1)
theorem find_con (mo mi : List Th) (bo bi : Nat) (s : Str) (H : Hp) (ho : H bo = some (.amap (mo.map ent))) (hi : H bi = some (.amap (mi.map ent))) :
    Con env 31 [.agg [.mp bo, .mp bi], .str s] H (fun ae H' => ∃ v, ae = .ret v ∧ (v = thV (findM mo mi s).1 (findM mo mi s).2 ∧ keeps (fun _ => False) H H')) := by
  obtain ⟨ri, hri, hri2⟩ := afind_look s mi 0
  obtain ⟨ro, hro, hro2⟩ := afind_look s mo 0
  refine con_of 28 [.cell 4 72] Try.func31 rfl rfl rfl rfl ?_
  refine awp_cutK (fun fr H' => ∃ b2 b4, fr 1 = .str s ∧ fr 2 = .ptr 2 b2 0 0 ∧ fr 4 = .ptr 2 b4 0 0 ∧ H' b2 = some (.rows 2 [[.mp bo, .mp bi]]) ∧ H' b4 = some (.rows 2 [[.int .i64 0, .int .i64 0]]) ∧ H b4 = none ∧ keeps (fun _ => False) H H' ∧ b2 ≠ b4) (fun K hK => ?_) ?_
  · refine awp_region rfl ?_; simp only [AL, TY, aq, aint, astr, aWant, isPtr, abnd, ahi, alo, aload, rd, newObj, alit, aparts, astore, amapset, cellsOf, ev, avOf, av1, putF, upd, argF, TK.agg, aapp, asrc, one, aq.abuild, Nat.reduceEqDiff, Nat.reduceAdd, Nat.reduceLT, Nat.reduceLeDiff, Nat.reduceMul, Nat.reduceSub, reduceIte, reduceCtorEq, Int.reduceLE, Int.reduceToNat, Int.reduceLT, Int.reduceEq, Int.reduceAdd, Int.reduceSub, Int.reduceMul, Int.reduceNeg]
    refine awpN_intro fun b2 hb2 => ?_
    simp only [AL, TY, aq, aint, astr, aWant, isPtr, abnd, ahi, alo, aload, rd, newObj, alit, aparts, astore, amapset, cellsOf, ev, avOf, av1, putF, upd, argF, TK.agg, aapp, asrc, one, aq.abuild, Nat.reduceEqDiff, Nat.reduceAdd, Nat.reduceLT, Nat.reduceLeDiff, Nat.reduceMul, Nat.reduceSub, reduceIte, reduceCtorEq, Int.reduceLE, Int.reduceToNat, Int.reduceLT, Int.reduceEq, Int.reduceAdd, Int.reduceSub, Int.reduceMul, Int.reduceNeg]
    refine awpN_intro fun b4 hb4 => ?_
    simp only [AL, TY, aq, aint, astr, aWant, isPtr, abnd, ahi, alo, aload, rd, newObj, alit, aparts, astore, amapset, cellsOf, ev, avOf, av1, putF, upd, argF, TK.agg, aapp, asrc, one, aq.abuild, Nat.reduceEqDiff, Nat.reduceAdd, Nat.reduceLT, Nat.reduceLeDiff, Nat.reduceMul, Nat.reduceSub, reduceIte, reduceCtorEq, Int.reduceLE, Int.reduceToNat, Int.reduceLT, Int.reduceEq, Int.reduceAdd, Int.reduceSub, Int.reduceMul, Int.reduceNeg]
    have hne : b2 ≠ b4 := fun e => by rw [← e, upd_same] at hb4; cases hb4
    have hne' : b4 ≠ b2 := fun e => hne e.symm
    have h4 : H b4 = none := by simpa only [upd, if_neg hne'] using hb4
    refine hK _ _ ⟨b2, b4, rfl, rfl, rfl, by simp [upd, hne], upd_same _ _ _, h4, ?_, hne⟩
    exact ((keeps.refl _ H).new hb2 _).new h4 _
  rintro fr H1 ⟨b2, b4, f1, f2, f4, h2, h4, hn4, hk, hne⟩
  have hset : ∀ (H2 : Hp) o, keeps (fun _ => False) H H2 → keeps (fun _ => False) H (upd H2 b4 o) := fun H2 o h => h.new hn4 o
  have ki := hk _ _ (fun h => h) hi
  have ko := hk _ _ (fun h => h) ho
  cases hl : lookT mi s with
  | some q =>
    have hM : findM mo mi s = q := by simp only [findM, hl]
    rw [hM]
    rw [hl] at hri2
    obtain ⟨p, rfl, hp⟩ : ∃ p, ri = some p ∧ p.2 = thV q.1 q.2 := by
      cases ri with
      | none => simp at hri2
      | some p => exact ⟨p, rfl, by simpa using hri2⟩
    refine awp_seq ?_
    refine awp_seq_k fun K hK => ?_; refine awp_region rfl ?_; simp only [AL, TY, aq, aint, astr, aWant, isPtr, abnd, ahi, alo, aload, rd, newObj, alit, aparts, astore, amapset, cellsOf, ev, avOf, av1, putF, upd, argF, TK.agg, aapp, asrc, one, aq.abuild, Nat.reduceEqDiff, Nat.reduceAdd, Nat.reduceLT, Nat.reduceLeDiff, Nat.reduceMul, Nat.reduceSub, reduceIte, reduceCtorEq, Int.reduceLE, Int.reduceToNat, Int.reduceLT, Int.reduceEq, Int.reduceAdd, Int.reduceSub, Int.reduceMul, Int.reduceNeg]
    simp only [f1, f2, h2, ki, hri, hp, thV, Option.getD_some, AL, TY, aq, aint, astr, aWant, isPtr, abnd, ahi, alo, aload, rd, newObj, alit, aparts, astore, amapset, cellsOf, ev, avOf, av1, putF, upd, argF, TK.agg, aapp, asrc, one, aq.abuild, Nat.reduceEqDiff, Nat.reduceAdd, Nat.reduceLT, Nat.reduceLeDiff, Nat.reduceMul, Nat.reduceSub, reduceIte, reduceCtorEq, Int.reduceLE, Int.reduceToNat, Int.reduceLT, Int.reduceEq, Int.reduceAdd, Int.reduceSub, Int.reduceMul, Int.reduceNeg]
    refine awpN_intro fun b6 hb6 => ?_
    simp only [AL, TY, aq, aint, astr, aWant, isPtr, abnd, ahi, alo, aload, rd, newObj, alit, aparts, astore, amapset, cellsOf, ev, avOf, av1, putF, upd, argF, TK.agg, aapp, asrc, one, aq.abuild, Nat.reduceEqDiff, Nat.reduceAdd, Nat.reduceLT, Nat.reduceLeDiff, Nat.reduceMul, Nat.reduceSub, reduceIte, reduceCtorEq, Int.reduceLE, Int.reduceToNat, Int.reduceLT, Int.reduceEq, Int.reduceAdd, Int.reduceSub, Int.reduceMul, Int.reduceNeg]
    refine hK _ _ ?_; clear hK K
    have n4 : b4 ≠ b6 := fun e => by rw [e, hb6] at h4; cases h4
    have n4' : b6 ≠ b4 := fun e => n4 e.symm
    have h6 : (upd (upd H1 b6 (some (.rows 2 [[.int .i64 0, .int .i64 0]]))) b6 (some (.rows 2 [[.int .i64 q.1, .int .i64 q.2]]))) b6 = some (.rows 2 [[.int .i64 q.1, .int .i64 q.2]]) := upd_same _ _ _
    have h4' : (upd (upd H1 b6 (some (.rows 2 [[.int .i64 0, .int .i64 0]]))) b6 (some (.rows 2 [[.int .i64 q.1, .int .i64 q.2]]))) b4 = some (.rows 2 [[.int .i64 0, .int .i64 0]]) := by simp only [upd, if_neg n4]; exact h4
    have hK2 : keeps (fun _ => False) H (upd (upd H1 b6 (some (.rows 2 [[.int .i64 0, .int .i64 0]]))) b6 (some (.rows 2 [[.int .i64 q.1, .int .i64 q.2]]))) := by
      intro b' o' _ hb'
      have h5 := hk b' o' (fun h => h) hb'
      have : b' ≠ b6 := fun e => by rw [e, hb6] at h5; cases h5
      simp only [upd, if_neg this]; exact h5
    generalize (upd (upd H1 b6 (some (.rows 2 [[.int .i64 0, .int .i64 0]]))) b6 (some (.rows 2 [[.int .i64 q.1, .int .i64 q.2]]))) = H2 at h6 h4' hK2 ⊢
    refine awp_seq_k fun K hK => ?_; refine awp_region rfl ?_; simp only [AL, TY, aq, aint, astr, aWant, isPtr, abnd, ahi, alo, aload, rd, newObj, alit, aparts, astore, amapset, cellsOf, ev, avOf, av1, putF, upd, argF, TK.agg, aapp, asrc, one, aq.abuild, Nat.reduceEqDiff, Nat.reduceAdd, Nat.reduceLT, Nat.reduceLeDiff, Nat.reduceMul, Nat.reduceSub, reduceIte, reduceCtorEq, Int.reduceLE, Int.reduceToNat, Int.reduceLT, Int.reduceEq, Int.reduceAdd, Int.reduceSub, Int.reduceMul, Int.reduceNeg]
    refine hK _ _ ?_; clear hK K
    refine awp_if true rfl (fun _ => ?_) (fun hc => by cases hc)
    refine awp_seq_k fun K hK => ?_; refine awp_region rfl ?_; simp only [AL, TY, aq, aint, astr, aWant, isPtr, abnd, ahi, alo, aload, rd, newObj, alit, aparts, astore, amapset, cellsOf, ev, avOf, av1, putF, upd, argF, TK.agg, aapp, asrc, one, aq.abuild, Nat.reduceEqDiff, Nat.reduceAdd, Nat.reduceLT, Nat.reduceLeDiff, Nat.reduceMul, Nat.reduceSub, reduceIte, reduceCtorEq, Int.reduceLE, Int.reduceToNat, Int.reduceLT, Int.reduceEq, Int.reduceAdd, Int.reduceSub, Int.reduceMul, Int.reduceNeg]
    simp only [f4, h6, h4', AL, TY, aq, aint, astr, aWant, isPtr, abnd, ahi, alo, aload, rd, newObj, alit, aparts, astore, amapset, cellsOf, ev, avOf, av1, putF, upd, argF, TK.agg, aapp, asrc, one, aq.abuild, Nat.reduceEqDiff, Nat.reduceAdd, Nat.reduceLT, Nat.reduceLeDiff, Nat.reduceMul, Nat.reduceSub, reduceIte, reduceCtorEq, Int.reduceLE, Int.reduceToNat, Int.reduceLT, Int.reduceEq, Int.reduceAdd, Int.reduceSub, Int.reduceMul, Int.reduceNeg]
    refine hK _ _ ?_; clear hK K
    refine awp_ret ?_
    have hu : upd H2 b4 (some (.rows 2 [[.int .i64 q.1, .int .i64 q.2]])) b4 = some (.rows 2 [[.int .i64 q.1, .int .i64 q.2]]) := upd_same _ _ _
    have hkk := hset H2 (some (.rows 2 [[.int .i64 q.1, .int .i64 q.2]])) hK2
    generalize upd H2 b4 (some (.rows 2 [[.int .i64 q.1, .int .i64 q.2]])) = H3 at hu hkk ⊢
    simp only [thenQ, blockQ, bodyQ, aresult, ares, argF, f4, hu, AL, TY, aq, aint, astr, aWant, isPtr, abnd, ahi, alo, aload, rd, newObj, alit, aparts, astore, amapset, cellsOf, ev, avOf, av1, putF, upd, argF, TK.agg, aapp, asrc, one, aq.abuild, Nat.reduceEqDiff, Nat.reduceAdd, Nat.reduceLT, Nat.reduceLeDiff, Nat.reduceMul, Nat.reduceSub, reduceIte, reduceCtorEq, Int.reduceLE, Int.reduceToNat, Int.reduceLT, Int.reduceEq, Int.reduceAdd, Int.reduceSub, Int.reduceMul, Int.reduceNeg]
    exact Gives.whole ⟨rfl, hkk⟩
  | none =>
    rw [hl] at hri2
    obtain rfl : ri = none := by cases ri with | none => rfl | some p => simp at hri2
    refine awp_seq ?_
    refine awp_seq_k fun K hK => ?_; refine awp_region rfl ?_; simp only [AL, TY, aq, aint, astr, aWant, isPtr, abnd, ahi, alo, aload, rd, newObj, alit, aparts, astore, amapset, cellsOf, ev, avOf, av1, putF, upd, argF, TK.agg, aapp, asrc, one, aq.abuild, Nat.reduceEqDiff, Nat.reduceAdd, Nat.reduceLT, Nat.reduceLeDiff, Nat.reduceMul, Nat.reduceSub, reduceIte, reduceCtorEq, Int.reduceLE, Int.reduceToNat, Int.reduceLT, Int.reduceEq, Int.reduceAdd, Int.reduceSub, Int.reduceMul, Int.reduceNeg]
    simp only [f1, f2, h2, ki, hri, Option.getD_none, AL, TY, aq, aint, astr, aWant, isPtr, abnd, ahi, alo, aload, rd, newObj, alit, aparts, astore, amapset, cellsOf, ev, avOf, av1, putF, upd, argF, TK.agg, aapp, asrc, one, aq.abuild, Nat.reduceEqDiff, Nat.reduceAdd, Nat.reduceLT, Nat.reduceLeDiff, Nat.reduceMul, Nat.reduceSub, reduceIte, reduceCtorEq, Int.reduceLE, Int.reduceToNat, Int.reduceLT, Int.reduceEq, Int.reduceAdd, Int.reduceSub, Int.reduceMul, Int.reduceNeg]
    refine awpN_intro fun b6 hb6 => ?_
    simp only [AL, TY, aq, aint, astr, aWant, isPtr, abnd, ahi, alo, aload, rd, newObj, alit, aparts, astore, amapset, cellsOf, ev, avOf, av1, putF, upd, argF, TK.agg, aapp, asrc, one, aq.abuild, Nat.reduceEqDiff, Nat.reduceAdd, Nat.reduceLT, Nat.reduceLeDiff, Nat.reduceMul, Nat.reduceSub, reduceIte, reduceCtorEq, Int.reduceLE, Int.reduceToNat, Int.reduceLT, Int.reduceEq, Int.reduceAdd, Int.reduceSub, Int.reduceMul, Int.reduceNeg]
    refine hK _ _ ?_; clear hK K
    have n4 : b4 ≠ b6 := fun e => by rw [e, hb6] at h4; cases h4
    have n2 : b2 ≠ b6 := fun e => by rw [e, hb6] at h2; cases h2
    have h4' : (upd (upd H1 b6 (some (.rows 2 [[.int .i64 0, .int .i64 0]]))) b6 (some (.rows 2 [[.int .i64 0, .int .i64 0]]))) b4 = some (.rows 2 [[.int .i64 0, .int .i64 0]]) := by simp only [upd, if_neg n4]; exact h4
    have h2' : (upd (upd H1 b6 (some (.rows 2 [[.int .i64 0, .int .i64 0]]))) b6 (some (.rows 2 [[.int .i64 0, .int .i64 0]]))) b2 = some (.rows 2 [[.mp bo, .mp bi]]) := by simp only [upd, if_neg n2]; exact h2
    have hK2 : keeps (fun _ => False) H (upd (upd H1 b6 (some (.rows 2 [[.int .i64 0, .int .i64 0]]))) b6 (some (.rows 2 [[.int .i64 0, .int .i64 0]]))) := by
      intro b' o' _ hb'
      have h5 := hk b' o' (fun h => h) hb'
      have : b' ≠ b6 := fun e => by rw [e, hb6] at h5; cases h5
      simp only [upd, if_neg this]; exact h5
    generalize (upd (upd H1 b6 (some (.rows 2 [[.int .i64 0, .int .i64 0]]))) b6 (some (.rows 2 [[.int .i64 0, .int .i64 0]]))) = H2 at h4' h2' hK2 ⊢
    refine awp_seq_k fun K hK => ?_; refine awp_region rfl ?_; simp only [AL, TY, aq, aint, astr, aWant, isPtr, abnd, ahi, alo, aload, rd, newObj, alit, aparts, astore, amapset, cellsOf, ev, avOf, av1, putF, upd, argF, TK.agg, aapp, asrc, one, aq.abuild, Nat.reduceEqDiff, Nat.reduceAdd, Nat.reduceLT, Nat.reduceLeDiff, Nat.reduceMul, Nat.reduceSub, reduceIte, reduceCtorEq, Int.reduceLE, Int.reduceToNat, Int.reduceLT, Int.reduceEq, Int.reduceAdd, Int.reduceSub, Int.reduceMul, Int.reduceNeg]
    refine hK _ _ ?_; clear hK K
    refine awp_if false rfl (fun hc => by cases hc) (fun _ => ?_)
    refine awp_skip ?_; simp only [thenQ, blockQ]
    have ko2 := hK2 _ _ (fun h => h) ho
    cases hlo : lookT mo s with
    | some q =>
      have hM : findM mo mi s = q := by simp only [findM, hl, hlo]
      rw [hM]
      rw [hlo] at hro2
      obtain ⟨p, rfl, hp⟩ : ∃ p, ro = some p ∧ p.2 = thV q.1 q.2 := by
        cases ro with
        | none => simp at hro2
        | some p => exact ⟨p, rfl, by simpa using hro2⟩
      refine awp_seq ?_
      refine awp_seq_k fun K hK => ?_; refine awp_region rfl ?_; simp only [AL, TY, aq, aint, astr, aWant, isPtr, abnd, ahi, alo, aload, rd, newObj, alit, aparts, astore, amapset, cellsOf, ev, avOf, av1, putF, upd, argF, TK.agg, aapp, asrc, one, aq.abuild, Nat.reduceEqDiff, Nat.reduceAdd, Nat.reduceLT, Nat.reduceLeDiff, Nat.reduceMul, Nat.reduceSub, reduceIte, reduceCtorEq, Int.reduceLE, Int.reduceToNat, Int.reduceLT, Int.reduceEq, Int.reduceAdd, Int.reduceSub, Int.reduceMul, Int.reduceNeg]
      simp only [f1, f2, h2', ko2, hro, hp, thV, Option.getD_some, AL, TY, aq, aint, astr, aWant, isPtr, abnd, ahi, alo, aload, rd, newObj, alit, aparts, astore, amapset, cellsOf, ev, avOf, av1, putF, upd, argF, TK.agg, aapp, asrc, one, aq.abuild, Nat.reduceEqDiff, Nat.reduceAdd, Nat.reduceLT, Nat.reduceLeDiff, Nat.reduceMul, Nat.reduceSub, reduceIte, reduceCtorEq, Int.reduceLE, Int.reduceToNat, Int.reduceLT, Int.reduceEq, Int.reduceAdd, Int.reduceSub, Int.reduceMul, Int.reduceNeg]
      refine awpN_intro fun b7 hb7 => ?_
      simp only [AL, TY, aq, aint, astr, aWant, isPtr, abnd, ahi, alo, aload, rd, newObj, alit, aparts, astore, amapset, cellsOf, ev, avOf, av1, putF, upd, argF, TK.agg, aapp, asrc, one, aq.abuild, Nat.reduceEqDiff, Nat.reduceAdd, Nat.reduceLT, Nat.reduceLeDiff, Nat.reduceMul, Nat.reduceSub, reduceIte, reduceCtorEq, Int.reduceLE, Int.reduceToNat, Int.reduceLT, Int.reduceEq, Int.reduceAdd, Int.reduceSub, Int.reduceMul, Int.reduceNeg]
      refine hK _ _ ?_; clear hK K
      have m4 : b4 ≠ b7 := fun e => by rw [e, hb7] at h4'; cases h4'
      have h7 : (upd (upd H2 b7 (some (.rows 2 [[.int .i64 0, .int .i64 0]]))) b7 (some (.rows 2 [[.int .i64 q.1, .int .i64 q.2]]))) b7 = some (.rows 2 [[.int .i64 q.1, .int .i64 q.2]]) := upd_same _ _ _
      have h4'' : (upd (upd H2 b7 (some (.rows 2 [[.int .i64 0, .int .i64 0]]))) b7 (some (.rows 2 [[.int .i64 q.1, .int .i64 q.2]]))) b4 = some (.rows 2 [[.int .i64 0, .int .i64 0]]) := by simp only [upd, if_neg m4]; exact h4'
      have hK3 : keeps (fun _ => False) H (upd (upd H2 b7 (some (.rows 2 [[.int .i64 0, .int .i64 0]]))) b7 (some (.rows 2 [[.int .i64 q.1, .int .i64 q.2]]))) := by
        intro b' o' _ hb'
        have h5 := hK2 b' o' (fun h => h) hb'
        have : b' ≠ b7 := fun e => by rw [e, hb7] at h5; cases h5
        simp only [upd, if_neg this]; exact h5
      generalize (upd (upd H2 b7 (some (.rows 2 [[.int .i64 0, .int .i64 0]]))) b7 (some (.rows 2 [[.int .i64 q.1, .int .i64 q.2]]))) = H3 at h7 h4'' hK3 ⊢
      refine awp_seq_k fun K hK => ?_; refine awp_region rfl ?_; simp only [AL, TY, aq, aint, astr, aWant, isPtr, abnd, ahi, alo, aload, rd, newObj, alit, aparts, astore, amapset, cellsOf, ev, avOf, av1, putF, upd, argF, TK.agg, aapp, asrc, one, aq.abuild, Nat.reduceEqDiff, Nat.reduceAdd, Nat.reduceLT, Nat.reduceLeDiff, Nat.reduceMul, Nat.reduceSub, reduceIte, reduceCtorEq, Int.reduceLE, Int.reduceToNat, Int.reduceLT, Int.reduceEq, Int.reduceAdd, Int.reduceSub, Int.reduceMul, Int.reduceNeg]
      refine hK _ _ ?_; clear hK K
      refine awp_if true rfl (fun _ => ?_) (fun hc => by cases hc)
      refine awp_seq_k fun K hK => ?_; refine awp_region rfl ?_; simp only [AL, TY, aq, aint, astr, aWant, isPtr, abnd, ahi, alo, aload, rd, newObj, alit, aparts, astore, amapset, cellsOf, ev, avOf, av1, putF, upd, argF, TK.agg, aapp, asrc, one, aq.abuild, Nat.reduceEqDiff, Nat.reduceAdd, Nat.reduceLT, Nat.reduceLeDiff, Nat.reduceMul, Nat.reduceSub, reduceIte, reduceCtorEq, Int.reduceLE, Int.reduceToNat, Int.reduceLT, Int.reduceEq, Int.reduceAdd, Int.reduceSub, Int.reduceMul, Int.reduceNeg]
      simp only [f4, h7, h4'', AL, TY, aq, aint, astr, aWant, isPtr, abnd, ahi, alo, aload, rd, newObj, alit, aparts, astore, amapset, cellsOf, ev, avOf, av1, putF, upd, argF, TK.agg, aapp, asrc, one, aq.abuild, Nat.reduceEqDiff, Nat.reduceAdd, Nat.reduceLT, Nat.reduceLeDiff, Nat.reduceMul, Nat.reduceSub, reduceIte, reduceCtorEq, Int.reduceLE, Int.reduceToNat, Int.reduceLT, Int.reduceEq, Int.reduceAdd, Int.reduceSub, Int.reduceMul, Int.reduceNeg]
      refine hK _ _ ?_; clear hK K
      refine awp_ret ?_
      have hu : upd H3 b4 (some (.rows 2 [[.int .i64 q.1, .int .i64 q.2]])) b4 = some (.rows 2 [[.int .i64 q.1, .int .i64 q.2]]) := upd_same _ _ _
      have hkk := hset H3 (some (.rows 2 [[.int .i64 q.1, .int .i64 q.2]])) hK3
      generalize upd H3 b4 (some (.rows 2 [[.int .i64 q.1, .int .i64 q.2]])) = H4 at hu hkk ⊢
      simp only [thenQ, blockQ, bodyQ, aresult, ares, argF, f4, hu, AL, TY, aq, aint, astr, aWant, isPtr, abnd, ahi, alo, aload, rd, newObj, alit, aparts, astore, amapset, cellsOf, ev, avOf, av1, putF, upd, argF, TK.agg, aapp, asrc, one, aq.abuild, Nat.reduceEqDiff, Nat.reduceAdd, Nat.reduceLT, Nat.reduceLeDiff, Nat.reduceMul, Nat.reduceSub, reduceIte, reduceCtorEq, Int.reduceLE, Int.reduceToNat, Int.reduceLT, Int.reduceEq, Int.reduceAdd, Int.reduceSub, Int.reduceMul, Int.reduceNeg]
      exact Gives.whole ⟨rfl, hkk⟩
    | none =>
      have hM : findM mo mi s = (0, -1) := by simp only [findM, hl, hlo]
      rw [hM]
      rw [hlo] at hro2
      obtain rfl : ro = none := by cases ro with | none => rfl | some p => simp at hro2
      refine awp_seq ?_
      refine awp_seq_k fun K hK => ?_; refine awp_region rfl ?_; simp only [AL, TY, aq, aint, astr, aWant, isPtr, abnd, ahi, alo, aload, rd, newObj, alit, aparts, astore, amapset, cellsOf, ev, avOf, av1, putF, upd, argF, TK.agg, aapp, asrc, one, aq.abuild, Nat.reduceEqDiff, Nat.reduceAdd, Nat.reduceLT, Nat.reduceLeDiff, Nat.reduceMul, Nat.reduceSub, reduceIte, reduceCtorEq, Int.reduceLE, Int.reduceToNat, Int.reduceLT, Int.reduceEq, Int.reduceAdd, Int.reduceSub, Int.reduceMul, Int.reduceNeg]
      simp only [f1, f2, h2', ko2, hro, Option.getD_none, AL, TY, aq, aint, astr, aWant, isPtr, abnd, ahi, alo, aload, rd, newObj, alit, aparts, astore, amapset, cellsOf, ev, avOf, av1, putF, upd, argF, TK.agg, aapp, asrc, one, aq.abuild, Nat.reduceEqDiff, Nat.reduceAdd, Nat.reduceLT, Nat.reduceLeDiff, Nat.reduceMul, Nat.reduceSub, reduceIte, reduceCtorEq, Int.reduceLE, Int.reduceToNat, Int.reduceLT, Int.reduceEq, Int.reduceAdd, Int.reduceSub, Int.reduceMul, Int.reduceNeg]
      refine awpN_intro fun b7 hb7 => ?_
      simp only [AL, TY, aq, aint, astr, aWant, isPtr, abnd, ahi, alo, aload, rd, newObj, alit, aparts, astore, amapset, cellsOf, ev, avOf, av1, putF, upd, argF, TK.agg, aapp, asrc, one, aq.abuild, Nat.reduceEqDiff, Nat.reduceAdd, Nat.reduceLT, Nat.reduceLeDiff, Nat.reduceMul, Nat.reduceSub, reduceIte, reduceCtorEq, Int.reduceLE, Int.reduceToNat, Int.reduceLT, Int.reduceEq, Int.reduceAdd, Int.reduceSub, Int.reduceMul, Int.reduceNeg]
      refine hK _ _ ?_; clear hK K
      have m4 : b4 ≠ b7 := fun e => by rw [e, hb7] at h4'; cases h4'
      have h4'' : (upd (upd H2 b7 (some (.rows 2 [[.int .i64 0, .int .i64 0]]))) b7 (some (.rows 2 [[.int .i64 0, .int .i64 0]]))) b4 = some (.rows 2 [[.int .i64 0, .int .i64 0]]) := by simp only [upd, if_neg m4]; exact h4'
      have hK3 : keeps (fun _ => False) H (upd (upd H2 b7 (some (.rows 2 [[.int .i64 0, .int .i64 0]]))) b7 (some (.rows 2 [[.int .i64 0, .int .i64 0]]))) := by
        intro b' o' _ hb'
        have h5 := hK2 b' o' (fun h => h) hb'
        have : b' ≠ b7 := fun e => by rw [e, hb7] at h5; cases h5
        simp only [upd, if_neg this]; exact h5
      generalize (upd (upd H2 b7 (some (.rows 2 [[.int .i64 0, .int .i64 0]]))) b7 (some (.rows 2 [[.int .i64 0, .int .i64 0]]))) = H3 at h4'' hK3 ⊢
      refine awp_seq_k fun K hK => ?_; refine awp_region rfl ?_; simp only [AL, TY, aq, aint, astr, aWant, isPtr, abnd, ahi, alo, aload, rd, newObj, alit, aparts, astore, amapset, cellsOf, ev, avOf, av1, putF, upd, argF, TK.agg, aapp, asrc, one, aq.abuild, Nat.reduceEqDiff, Nat.reduceAdd, Nat.reduceLT, Nat.reduceLeDiff, Nat.reduceMul, Nat.reduceSub, reduceIte, reduceCtorEq, Int.reduceLE, Int.reduceToNat, Int.reduceLT, Int.reduceEq, Int.reduceAdd, Int.reduceSub, Int.reduceMul, Int.reduceNeg]
      refine hK _ _ ?_; clear hK K
      refine awp_if false rfl (fun hc => by cases hc) (fun _ => ?_)
      refine awp_skip ?_; simp only [thenQ, blockQ]
      refine awp_seq_k fun K hK => ?_; refine awp_region rfl ?_; simp only [AL, TY, aq, aint, astr, aWant, isPtr, abnd, ahi, alo, aload, rd, newObj, alit, aparts, astore, amapset, cellsOf, ev, avOf, av1, putF, upd, argF, TK.agg, aapp, asrc, one, aq.abuild, Nat.reduceEqDiff, Nat.reduceAdd, Nat.reduceLT, Nat.reduceLeDiff, Nat.reduceMul, Nat.reduceSub, reduceIte, reduceCtorEq, Int.reduceLE, Int.reduceToNat, Int.reduceLT, Int.reduceEq, Int.reduceAdd, Int.reduceSub, Int.reduceMul, Int.reduceNeg]
      simp only [f4, h4'', AL, TY, aq, aint, astr, aWant, isPtr, abnd, ahi, alo, aload, rd, newObj, alit, aparts, astore, amapset, cellsOf, ev, avOf, av1, putF, upd, argF, TK.agg, aapp, asrc, one, aq.abuild, Nat.reduceEqDiff, Nat.reduceAdd, Nat.reduceLT, Nat.reduceLeDiff, Nat.reduceMul, Nat.reduceSub, reduceIte, reduceCtorEq, Int.reduceLE, Int.reduceToNat, Int.reduceLT, Int.reduceEq, Int.reduceAdd, Int.reduceSub, Int.reduceMul, Int.reduceNeg]
      refine hK _ _ ?_; clear hK K
      refine awp_ret ?_
      have hu : upd H3 b4 (some (.rows 2 [[.int .i64 0, .int .i64 (-1)]])) b4 = some (.rows 2 [[.int .i64 0, .int .i64 (-1)]]) := upd_same _ _ _
      have hkk := hset H3 (some (.rows 2 [[.int .i64 0, .int .i64 (-1)]])) hK3
      generalize upd H3 b4 (some (.rows 2 [[.int .i64 0, .int .i64 (-1)]])) = H4 at hu hkk ⊢
      simp only [thenQ, blockQ, bodyQ, aresult, ares, argF, f4, hu, AL, TY, aq, aint, astr, aWant, isPtr, abnd, ahi, alo, aload, rd, newObj, alit, aparts, astore, amapset, cellsOf, ev, avOf, av1, putF, upd, argF, TK.agg, aapp, asrc, one, aq.abuild, Nat.reduceEqDiff, Nat.reduceAdd, Nat.reduceLT, Nat.reduceLeDiff, Nat.reduceMul, Nat.reduceSub, reduceIte, reduceCtorEq, Int.reduceLE, Int.reduceToNat, Int.reduceLT, Int.reduceEq, Int.reduceAdd, Int.reduceSub, Int.reduceMul, Int.reduceNeg]
      exact Gives.whole ⟨rfl, hkk⟩
end Go.Proofs.Ytnbokmbjiioooaa
