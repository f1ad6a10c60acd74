/- Chapter 16: alive. -/
import Derived.Test.YtnbokmbjiioooaaS16r
set_option linter.unusedSimpArgs false
set_option linter.unusedVariables false
namespace Go.Proofs.Ytnbokmbjiioooaa
open Go.Al
abbrev nE (n : Int) : Ex := .mk 1 0 n [] []
def P1 : Pg := plainP [102] [nE 1]
def P2 : Pg := plainP [102] [nE 1, nE 2]
def P3 : Pg := plainP [103] [nE 1]
def P4 : Pg := plainP [109, 97, 105, 110] []
theorem P1_c : checkI P1 = 0 := by
  simp only [checkI, namesB, numsB, namesFrom, numsFrom, P1, plainP, usesS_cons, usesE_cons, usesS, usesE, Ex.kids, Sm.es, Sm.thn, Sm.els]
  decide +kernel
theorem P2_c : checkI P2 = 1 := by
  simp only [checkI, namesB, numsB, namesFrom, numsFrom, P2, plainP, usesS_cons, usesE_cons, usesS, usesE, Ex.kids, Sm.es, Sm.thn, Sm.els]
  decide +kernel
theorem P3_c : checkI P3 = 4 := by
  simp only [checkI, namesB, numsB, namesFrom, numsFrom, P3, plainP, usesS_cons, usesE_cons, usesS, usesE, Ex.kids, Sm.es, Sm.thn, Sm.els]
  decide +kernel
theorem P4_c : checkI P4 = 4 := by
  simp only [checkI, namesB, numsB, namesFrom, numsFrom, P4, plainP, usesS_cons, usesE_cons, usesS, usesE, Ex.kids, Sm.es, Sm.thn, Sm.els]
  decide +kernel
theorem P1_l : callsP P1 = [[], [0]] := by
  simp only [callsP, callsFrom, callsRow, P1, plainP, usesS_cons, usesE_cons, usesS, usesE, Ex.kids, Sm.es, Sm.thn, Sm.els]
  decide +kernel
theorem okE_nil : okE [] := ⟨(by simp [fitL, i64R, u32R]), fun e h => by cases h⟩
theorem okS_nil : okS [] := ⟨(by simp [fitL, i64R, u32R]), fun e h => by cases h⟩
theorem nE_ok (n : Int) (h : u32R n) : (nE n).ok := .mk _ _ _ _ _ (by simp [fitL, i64R, u32R]) (by simp [fitL, i64R, u32R]) h (by simp [fitL, i64R, u32R]) (by simp [fitL, i64R, u32R]) (fun e h => by cases h)
theorem plainP_few (name : Str) (hn : fitL name) (args : List Ex) (ha : okE args) (hs : szE args ≤ 100) : (plainP name args).few := by
  have hf : okS [.mk 7 [] [.mk 2 0 0 [97] []] [] []] := ⟨(by simp [fitL, i64R, u32R]), fun e he => by
    simp only [List.mem_singleton] at he
    subst he
    exact .mk _ _ _ _ _ (by simp [fitL, i64R, u32R]) (by simp [fitL, i64R, u32R]) ⟨(by simp [fitL, i64R, u32R]), fun e he => by
      simp only [List.mem_singleton] at he
      subst he
      exact .mk _ _ _ _ _ (by simp [fitL, i64R, u32R]) (by simp [fitL, i64R, u32R]) (by simp [fitL, i64R, u32R]) (by simp [fitL, i64R, u32R]) (by simp [fitL, i64R, u32R]) (fun e h => by cases h)⟩ (by simp [fitL, i64R, u32R]) (fun e h => by cases h) (by simp [fitL, i64R, u32R]) (fun e h => by cases h)⟩
  have hm : okS [.mk 3 [] [.mk 4 0 0 name args] [] []] := ⟨(by simp [fitL, i64R, u32R]), fun e he => by
    simp only [List.mem_singleton] at he
    subst he
    exact .mk _ _ _ _ _ (by simp [fitL, i64R, u32R]) (by simp [fitL, i64R, u32R]) ⟨(by simp [fitL, i64R, u32R]), fun e he => by
      simp only [List.mem_singleton] at he
      subst he
      exact .mk _ _ _ _ _ (by simp [fitL, i64R, u32R]) (by simp [fitL, i64R, u32R]) (by simp [fitL, i64R, u32R]) hn ha.fit ha.2⟩ (by simp [fitL, i64R, u32R]) (fun e h => by cases h) (by simp [fitL, i64R, u32R]) (fun e h => by cases h)⟩
  have hA : okN [[97]] := ⟨(by simp [fitL]), fun s h => by simp only [List.mem_singleton] at h; subst h; simp [fitL]⟩
  have hN : okN [] := ⟨(by simp [fitL]), fun s h => by cases h⟩
  refine ⟨⟨hN, (by simp [plainP, fitL]), fun a h => (by cases h), (by simp [plainP, fitL]), fun f hmem => ?_⟩, (by simp [plainP]), (by simp [plainP]), (by simp [plainP]), fun f hmem => ?_⟩
  · simp only [plainP, List.mem_cons, List.not_mem_nil, or_false] at hmem
    rcases hmem with rfl | rfl
    · exact ⟨(by simp [fitL]), hA, hN, hf⟩
    · exact ⟨(by simp [fitL]), hN, hN, hm⟩
  · simp only [plainP, List.mem_cons, List.not_mem_nil, or_false] at hmem
    rcases hmem with rfl | rfl
    · simp [szS, szE, Sm.sz, Ex.sz]
    · simp [szS, szE, Sm.sz, Ex.sz]; omega
theorem one_ok (n : Int) (h : u32R n) : okE [nE n] := ⟨(by simp [fitL]), fun e he => by simp only [List.mem_singleton] at he; subst he; exact nE_ok n h⟩
theorem two_ok (n m : Int) (h : u32R n) (h' : u32R m) : okE [nE n, nE m] := ⟨(by simp [fitL]), fun e he => by
  simp only [List.mem_cons, List.not_mem_nil, or_false] at he
  rcases he with rfl | rfl
  · exact nE_ok n h
  · exact nE_ok m h'⟩
theorem P1_few : P1.few := plainP_few _ (by simp [fitL]) _ (one_ok 1 (by simp [u32R])) (by simp [szE, Ex.sz])
theorem P2_few : P2.few := plainP_few _ (by simp [fitL]) _ (two_ok 1 2 (by simp [u32R]) (by simp [u32R])) (by simp [szE, Ex.sz])
theorem P3_few : P3.few := plainP_few _ (by simp [fitL]) _ (one_ok 1 (by simp [u32R])) (by simp [szE, Ex.sz])
theorem P4_few : P4.few := plainP_few _ (by simp [fitL]) _ okE_nil (by simp [szE])
set_option maxHeartbeats 2000000 in
theorem alive_con : PCon env 9 [] (.bool true) := by
  have hn := fun n => num_con n
  simp only [Ex.row_eq, Ex.kind, Ex.op, Ex.num, Ex.name, Ex.kids, List.map_nil] at hn
  have h1 := plain_con [102] [nE 1]
  have h2 := plain_con [102] [nE 1, nE 2]
  have h3 := plain_con [103] [nE 1]
  have h4 := plain_con [109, 97, 105, 110] []
  rw [show plainP [102] [nE 1] = P1 from rfl] at h1
  rw [show plainP [102] [nE 1, nE 2] = P2 from rfl] at h2
  rw [show plainP [103] [nE 1] = P3 from rfl] at h3
  rw [show plainP [109, 97, 105, 110] [] = P4 from rfl] at h4
  simp only [List.map_cons, List.map_nil, Ex.row_eq, Ex.kind, Ex.op, Ex.num, Ex.name, Ex.kids] at h1 h2 h3 h4
  have c1 := Check_con P1 P1_few (by decide)
  have c2 := Check_con P2 P2_few (by decide)
  have c3 := Check_con P3 P3_few (by decide)
  have c4 := Check_con P4 P4_few (by decide)
  rw [P1_c] at c1
  rw [P2_c] at c2
  rw [P3_c] at c3
  rw [P4_c] at c4
  have l1 := Calls_con P1 P1_few
  rw [P1_l] at l1
  have hs := Same16_con [[], [0]] [[], [0]] (by simp) (by simp) (by simp) (by simp)
  rw [decide_eq_true rfl] at hs
  simp only [List.map_cons, List.map_nil, intsRow, intRow] at l1 hs
  generalize P1.av = v1 at *
  generalize P2.av = v2 at *
  generalize P3.av = v3 at *
  generalize P4.av = v4 at *
  refine con_of 37 [.tmp 0] Try.func9 rfl rfl rfl rfl ?_
  refine awp_seq_k fun K hK => ?_; refine awp_region rfl ?_; simp only [AL, TY, aq, aint, astr, aWant, isPtr, abnd, ahi, alo, aload, rd, newObj, alit, aparts, astore, amapset, cellsOf, ev, avOf, av1, putF, upd, argF, TK.agg, aapp, asrc, one, aq.abuild, Nat.reduceEqDiff, Nat.reduceAdd, Nat.reduceLT, Nat.reduceLeDiff, Nat.reduceMul, Nat.reduceSub, reduceIte, reduceCtorEq, Int.reduceLE, Int.reduceToNat, Int.reduceLT, Int.reduceEq, Int.reduceAdd, Int.reduceSub, Int.reduceMul, Int.reduceNeg]
  refine hK _ _ ?_; clear hK K
  refine awp_seq_k fun K hK => ?_; refine awp_region rfl ?_; simp only [AL, TY, aq, aint, astr, aWant, isPtr, abnd, ahi, alo, aload, rd, newObj, alit, aparts, astore, amapset, cellsOf, ev, avOf, av1, putF, upd, argF, TK.agg, aapp, asrc, one, aq.abuild, Nat.reduceEqDiff, Nat.reduceAdd, Nat.reduceLT, Nat.reduceLeDiff, Nat.reduceMul, Nat.reduceSub, reduceIte, reduceCtorEq, Int.reduceLE, Int.reduceToNat, Int.reduceLT, Int.reduceEq, Int.reduceAdd, Int.reduceSub, Int.reduceMul, Int.reduceNeg]
  repeat' (first | (refine awpC_pure' (hn _) ?_; simp only [AL, TY, aq, aint, astr, aWant, isPtr, abnd, ahi, alo, aload, rd, newObj, alit, aparts, astore, amapset, cellsOf, ev, avOf, av1, putF, upd, argF, TK.agg, aapp, asrc, one, aq.abuild, Nat.reduceEqDiff, Nat.reduceAdd, Nat.reduceLT, Nat.reduceLeDiff, Nat.reduceMul, Nat.reduceSub, reduceIte, reduceCtorEq, Int.reduceLE, Int.reduceToNat, Int.reduceLT, Int.reduceEq, Int.reduceAdd, Int.reduceSub, Int.reduceMul, Int.reduceNeg]) | (refine awpC_pure' h1 ?_; simp only [AL, TY, aq, aint, astr, aWant, isPtr, abnd, ahi, alo, aload, rd, newObj, alit, aparts, astore, amapset, cellsOf, ev, avOf, av1, putF, upd, argF, TK.agg, aapp, asrc, one, aq.abuild, Nat.reduceEqDiff, Nat.reduceAdd, Nat.reduceLT, Nat.reduceLeDiff, Nat.reduceMul, Nat.reduceSub, reduceIte, reduceCtorEq, Int.reduceLE, Int.reduceToNat, Int.reduceLT, Int.reduceEq, Int.reduceAdd, Int.reduceSub, Int.reduceMul, Int.reduceNeg]) | (refine awpC_pure' l1 ?_; simp only [AL, TY, aq, aint, astr, aWant, isPtr, abnd, ahi, alo, aload, rd, newObj, alit, aparts, astore, amapset, cellsOf, ev, avOf, av1, putF, upd, argF, TK.agg, aapp, asrc, one, aq.abuild, Nat.reduceEqDiff, Nat.reduceAdd, Nat.reduceLT, Nat.reduceLeDiff, Nat.reduceMul, Nat.reduceSub, reduceIte, reduceCtorEq, Int.reduceLE, Int.reduceToNat, Int.reduceLT, Int.reduceEq, Int.reduceAdd, Int.reduceSub, Int.reduceMul, Int.reduceNeg]) | (refine awpB_sealed ?_; simp only [AL, TY, aq, aint, astr, aWant, isPtr, abnd, ahi, alo, aload, rd, newObj, alit, aparts, astore, amapset, cellsOf, ev, avOf, av1, putF, upd, argF, TK.agg, aapp, asrc, one, aq.abuild, Nat.reduceEqDiff, Nat.reduceAdd, Nat.reduceLT, Nat.reduceLeDiff, Nat.reduceMul, Nat.reduceSub, reduceIte, reduceCtorEq, Int.reduceLE, Int.reduceToNat, Int.reduceLT, Int.reduceEq, Int.reduceAdd, Int.reduceSub, Int.reduceMul, Int.reduceNeg]))
  refine hK _ _ ?_; clear hK K
  refine awp_seq_k fun K hK => ?_; refine awp_region rfl ?_; simp only [AL, TY, aq, aint, astr, aWant, isPtr, abnd, ahi, alo, aload, rd, newObj, alit, aparts, astore, amapset, cellsOf, ev, avOf, av1, putF, upd, argF, TK.agg, aapp, asrc, one, aq.abuild, Nat.reduceEqDiff, Nat.reduceAdd, Nat.reduceLT, Nat.reduceLeDiff, Nat.reduceMul, Nat.reduceSub, reduceIte, reduceCtorEq, Int.reduceLE, Int.reduceToNat, Int.reduceLT, Int.reduceEq, Int.reduceAdd, Int.reduceSub, Int.reduceMul, Int.reduceNeg]
  repeat' (first | (refine awpC_pure' (hn _) ?_; simp only [AL, TY, aq, aint, astr, aWant, isPtr, abnd, ahi, alo, aload, rd, newObj, alit, aparts, astore, amapset, cellsOf, ev, avOf, av1, putF, upd, argF, TK.agg, aapp, asrc, one, aq.abuild, Nat.reduceEqDiff, Nat.reduceAdd, Nat.reduceLT, Nat.reduceLeDiff, Nat.reduceMul, Nat.reduceSub, reduceIte, reduceCtorEq, Int.reduceLE, Int.reduceToNat, Int.reduceLT, Int.reduceEq, Int.reduceAdd, Int.reduceSub, Int.reduceMul, Int.reduceNeg]) | (refine awpC_pure' h1 ?_; simp only [AL, TY, aq, aint, astr, aWant, isPtr, abnd, ahi, alo, aload, rd, newObj, alit, aparts, astore, amapset, cellsOf, ev, avOf, av1, putF, upd, argF, TK.agg, aapp, asrc, one, aq.abuild, Nat.reduceEqDiff, Nat.reduceAdd, Nat.reduceLT, Nat.reduceLeDiff, Nat.reduceMul, Nat.reduceSub, reduceIte, reduceCtorEq, Int.reduceLE, Int.reduceToNat, Int.reduceLT, Int.reduceEq, Int.reduceAdd, Int.reduceSub, Int.reduceMul, Int.reduceNeg]) | (refine awpC_pure hs (SubL.cons (Sub.refl _) (SubL.cons (Sub.isl (.cons (.cons (Sub.nsl 1) .nil) (.cons (.cons (Sub.refl _) .nil) .nil))) (SubL.refl []))) ?_; simp only [AL, TY, aq, aint, astr, aWant, isPtr, abnd, ahi, alo, aload, rd, newObj, alit, aparts, astore, amapset, cellsOf, ev, avOf, av1, putF, upd, argF, TK.agg, aapp, asrc, one, aq.abuild, Nat.reduceEqDiff, Nat.reduceAdd, Nat.reduceLT, Nat.reduceLeDiff, Nat.reduceMul, Nat.reduceSub, reduceIte, reduceCtorEq, Int.reduceLE, Int.reduceToNat, Int.reduceLT, Int.reduceEq, Int.reduceAdd, Int.reduceSub, Int.reduceMul, Int.reduceNeg]) | (refine awpC_pure h4 (SubL.cons (Sub.refl _) (SubL.cons (Sub.nsl 5) (SubL.refl []))) ?_; simp only [AL, TY, aq, aint, astr, aWant, isPtr, abnd, ahi, alo, aload, rd, newObj, alit, aparts, astore, amapset, cellsOf, ev, avOf, av1, putF, upd, argF, TK.agg, aapp, asrc, one, aq.abuild, Nat.reduceEqDiff, Nat.reduceAdd, Nat.reduceLT, Nat.reduceLeDiff, Nat.reduceMul, Nat.reduceSub, reduceIte, reduceCtorEq, Int.reduceLE, Int.reduceToNat, Int.reduceLT, Int.reduceEq, Int.reduceAdd, Int.reduceSub, Int.reduceMul, Int.reduceNeg]) | (refine awpC_pure' h2 ?_; simp only [AL, TY, aq, aint, astr, aWant, isPtr, abnd, ahi, alo, aload, rd, newObj, alit, aparts, astore, amapset, cellsOf, ev, avOf, av1, putF, upd, argF, TK.agg, aapp, asrc, one, aq.abuild, Nat.reduceEqDiff, Nat.reduceAdd, Nat.reduceLT, Nat.reduceLeDiff, Nat.reduceMul, Nat.reduceSub, reduceIte, reduceCtorEq, Int.reduceLE, Int.reduceToNat, Int.reduceLT, Int.reduceEq, Int.reduceAdd, Int.reduceSub, Int.reduceMul, Int.reduceNeg]) | (refine awpC_pure' h3 ?_; simp only [AL, TY, aq, aint, astr, aWant, isPtr, abnd, ahi, alo, aload, rd, newObj, alit, aparts, astore, amapset, cellsOf, ev, avOf, av1, putF, upd, argF, TK.agg, aapp, asrc, one, aq.abuild, Nat.reduceEqDiff, Nat.reduceAdd, Nat.reduceLT, Nat.reduceLeDiff, Nat.reduceMul, Nat.reduceSub, reduceIte, reduceCtorEq, Int.reduceLE, Int.reduceToNat, Int.reduceLT, Int.reduceEq, Int.reduceAdd, Int.reduceSub, Int.reduceMul, Int.reduceNeg]) | (refine awpC_pure' h4 ?_; simp only [AL, TY, aq, aint, astr, aWant, isPtr, abnd, ahi, alo, aload, rd, newObj, alit, aparts, astore, amapset, cellsOf, ev, avOf, av1, putF, upd, argF, TK.agg, aapp, asrc, one, aq.abuild, Nat.reduceEqDiff, Nat.reduceAdd, Nat.reduceLT, Nat.reduceLeDiff, Nat.reduceMul, Nat.reduceSub, reduceIte, reduceCtorEq, Int.reduceLE, Int.reduceToNat, Int.reduceLT, Int.reduceEq, Int.reduceAdd, Int.reduceSub, Int.reduceMul, Int.reduceNeg]) | (refine awpC_pure' c1 ?_; simp only [AL, TY, aq, aint, astr, aWant, isPtr, abnd, ahi, alo, aload, rd, newObj, alit, aparts, astore, amapset, cellsOf, ev, avOf, av1, putF, upd, argF, TK.agg, aapp, asrc, one, aq.abuild, Nat.reduceEqDiff, Nat.reduceAdd, Nat.reduceLT, Nat.reduceLeDiff, Nat.reduceMul, Nat.reduceSub, reduceIte, reduceCtorEq, Int.reduceLE, Int.reduceToNat, Int.reduceLT, Int.reduceEq, Int.reduceAdd, Int.reduceSub, Int.reduceMul, Int.reduceNeg]) | (refine awpC_pure' c2 ?_; simp only [AL, TY, aq, aint, astr, aWant, isPtr, abnd, ahi, alo, aload, rd, newObj, alit, aparts, astore, amapset, cellsOf, ev, avOf, av1, putF, upd, argF, TK.agg, aapp, asrc, one, aq.abuild, Nat.reduceEqDiff, Nat.reduceAdd, Nat.reduceLT, Nat.reduceLeDiff, Nat.reduceMul, Nat.reduceSub, reduceIte, reduceCtorEq, Int.reduceLE, Int.reduceToNat, Int.reduceLT, Int.reduceEq, Int.reduceAdd, Int.reduceSub, Int.reduceMul, Int.reduceNeg]) | (refine awpC_pure' c3 ?_; simp only [AL, TY, aq, aint, astr, aWant, isPtr, abnd, ahi, alo, aload, rd, newObj, alit, aparts, astore, amapset, cellsOf, ev, avOf, av1, putF, upd, argF, TK.agg, aapp, asrc, one, aq.abuild, Nat.reduceEqDiff, Nat.reduceAdd, Nat.reduceLT, Nat.reduceLeDiff, Nat.reduceMul, Nat.reduceSub, reduceIte, reduceCtorEq, Int.reduceLE, Int.reduceToNat, Int.reduceLT, Int.reduceEq, Int.reduceAdd, Int.reduceSub, Int.reduceMul, Int.reduceNeg]) | (refine awpC_pure' c4 ?_; simp only [AL, TY, aq, aint, astr, aWant, isPtr, abnd, ahi, alo, aload, rd, newObj, alit, aparts, astore, amapset, cellsOf, ev, avOf, av1, putF, upd, argF, TK.agg, aapp, asrc, one, aq.abuild, Nat.reduceEqDiff, Nat.reduceAdd, Nat.reduceLT, Nat.reduceLeDiff, Nat.reduceMul, Nat.reduceSub, reduceIte, reduceCtorEq, Int.reduceLE, Int.reduceToNat, Int.reduceLT, Int.reduceEq, Int.reduceAdd, Int.reduceSub, Int.reduceMul, Int.reduceNeg]) | (refine awpB_sealed ?_; simp only [AL, TY, aq, aint, astr, aWant, isPtr, abnd, ahi, alo, aload, rd, newObj, alit, aparts, astore, amapset, cellsOf, ev, avOf, av1, putF, upd, argF, TK.agg, aapp, asrc, one, aq.abuild, Nat.reduceEqDiff, Nat.reduceAdd, Nat.reduceLT, Nat.reduceLeDiff, Nat.reduceMul, Nat.reduceSub, reduceIte, reduceCtorEq, Int.reduceLE, Int.reduceToNat, Int.reduceLT, Int.reduceEq, Int.reduceAdd, Int.reduceSub, Int.reduceMul, Int.reduceNeg]))
  refine hK _ _ ?_; clear hK K
  refine awp_ret ?_; simp only [thenQ, blockQ, bodyQ, aresult, ares, argF, AL, TY, aq, aint, astr, aWant, isPtr, abnd, ahi, alo, aload, rd, newObj, alit, aparts, astore, amapset, cellsOf, ev, avOf, av1, putF, upd, argF, TK.agg, aapp, asrc, one, aq.abuild, Nat.reduceEqDiff, Nat.reduceAdd, Nat.reduceLT, Nat.reduceLeDiff, Nat.reduceMul, Nat.reduceSub, reduceIte, reduceCtorEq, Int.reduceLE, Int.reduceToNat, Int.reduceLT, Int.reduceEq, Int.reduceAdd, Int.reduceSub, Int.reduceMul, Int.reduceNeg]; refine Gives.pure ?_
  rfl
end Go.Proofs.Ytnbokmbjiioooaa
