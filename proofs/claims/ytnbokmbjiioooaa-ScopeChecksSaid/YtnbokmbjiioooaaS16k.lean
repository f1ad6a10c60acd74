/- Chapter 16, the program's: visit, and what Check does with each use. -/
import Derived.Test.YtnbokmbjiioooaaS16j
set_option linter.unusedSimpArgs false
set_option linter.unusedVariables false
namespace Go.Proofs.Ytnbokmbjiioooaa
open Go.Al
theorem visit_con {σ : Type} {g : FuncId} {caps : List AV} (V : Vis σ g caps) (f : Fu) (hf : f.ok) (s : σ) (H : Hp) (hD : V.D s H) :
    Con env 29 [.agg f.row, .fn (.func g) [] caps] H (fun ae H' => ∃ v, ae = .ret v ∧ (v = .tup [] ∧ V.D ((usesS f.body).foldl V.step s) H' ∧ keeps V.M H H')) := by
  refine con_of 12 [] Try.func29 rfl rfl rfl rfl ?_
  simp only [Fu.row]
  refine awp_cutK (fun fr H' => ∃ b2 b3, fr 2 = .ptr 5 b2 0 0 ∧ fr 3 = .ptr 1 b3 0 0 ∧ H' b2 = some (.rows 5 [[.str f.name, .isl 1 (f.params.map strRow), .isl 1 (f.locs.map strRow), .bool f.word, .isl 5 (f.body.map Sm.row)]]) ∧ H' b3 = some (.rows 1 [[.fn (.func g) [] caps]]) ∧ H b2 = none ∧ H b3 = none ∧ keeps (fun _ => False) H H' ∧ V.D s H') (fun K hK => ?_) ?_
  · refine awp_region rfl ?_; simp only [AL, TY, aq, aint, astr, aWant, isPtr, abnd, ahi, alo, aload, rd, newObj, alit, aparts, astore, amapset, cellsOf, ev, avOf, av1, putF, upd, argF, TK.agg, aapp, asrc, one, aq.abuild, Nat.reduceEqDiff, Nat.reduceAdd, Nat.reduceLT, Nat.reduceLeDiff, Nat.reduceMul, Nat.reduceSub, reduceIte, reduceCtorEq, Int.reduceLE, Int.reduceToNat, Int.reduceLT, Int.reduceEq, Int.reduceAdd, Int.reduceSub, Int.reduceMul, Int.reduceNeg]
    refine awpN_intro fun b2 hb2 => ?_
    simp only [AL, TY, aq, aint, astr, aWant, isPtr, abnd, ahi, alo, aload, rd, newObj, alit, aparts, astore, amapset, cellsOf, ev, avOf, av1, putF, upd, argF, TK.agg, aapp, asrc, one, aq.abuild, Nat.reduceEqDiff, Nat.reduceAdd, Nat.reduceLT, Nat.reduceLeDiff, Nat.reduceMul, Nat.reduceSub, reduceIte, reduceCtorEq, Int.reduceLE, Int.reduceToNat, Int.reduceLT, Int.reduceEq, Int.reduceAdd, Int.reduceSub, Int.reduceMul, Int.reduceNeg]
    refine awpN_intro fun b3 hb3 => ?_
    simp only [AL, TY, aq, aint, astr, aWant, isPtr, abnd, ahi, alo, aload, rd, newObj, alit, aparts, astore, amapset, cellsOf, ev, avOf, av1, putF, upd, argF, TK.agg, aapp, asrc, one, aq.abuild, Nat.reduceEqDiff, Nat.reduceAdd, Nat.reduceLT, Nat.reduceLeDiff, Nat.reduceMul, Nat.reduceSub, reduceIte, reduceCtorEq, Int.reduceLE, Int.reduceToNat, Int.reduceLT, Int.reduceEq, Int.reduceAdd, Int.reduceSub, Int.reduceMul, Int.reduceNeg]
    have hne : b2 ≠ b3 := fun e => by rw [← e, upd_same] at hb3; cases hb3
    have hne' : b3 ≠ b2 := fun e => hne e.symm
    have h3 : H b3 = none := by simpa only [upd, if_neg hne'] using hb3
    have hk : keeps (fun _ => False) H (upd (upd H b2 (some (.rows 5 [[.str f.name, .isl 1 (f.params.map strRow), .isl 1 (f.locs.map strRow), .bool f.word, .isl 5 (f.body.map Sm.row)]]))) b3 (some (.rows 1 [[.fn (.func g) [] caps]]))) := ((keeps.refl _ H).new hb2 _).new h3 _
    exact hK _ _ ⟨b2, b3, rfl, rfl, by simp [upd, hne], upd_same _ _ _, hb2, h3, hk, V.ext _ _ _ hD hk⟩
  rintro fr H1 ⟨b2, b3, f2, f3, h2, h3, n2, n3, hk, hD1⟩
  have hM : ∀ b, V.M b → H b ≠ none := V.old s H hD
  refine awp_cutK (fun fr H' => ∃ b4, fr 2 = .ptr 5 b2 0 0 ∧ fr 3 = .ptr 1 b3 0 0 ∧ fr 4 = .ptr 1 b4 0 0 ∧ H' b4 = some (.rows 1 [[.nfn]]) ∧ H b4 = none ∧ H1 b4 = none ∧ keeps (fun _ => False) H1 H') (fun K hK => ?_) ?_
  · refine awp_region rfl ?_; simp only [AL, TY, aq, aint, astr, aWant, isPtr, abnd, ahi, alo, aload, rd, newObj, alit, aparts, astore, amapset, cellsOf, ev, avOf, av1, putF, upd, argF, TK.agg, aapp, asrc, one, aq.abuild, Nat.reduceEqDiff, Nat.reduceAdd, Nat.reduceLT, Nat.reduceLeDiff, Nat.reduceMul, Nat.reduceSub, reduceIte, reduceCtorEq, Int.reduceLE, Int.reduceToNat, Int.reduceLT, Int.reduceEq, Int.reduceAdd, Int.reduceSub, Int.reduceMul, Int.reduceNeg]
    refine awpN_intro fun b4 hb4 => ?_
    simp only [AL, TY, aq, aint, astr, aWant, isPtr, abnd, ahi, alo, aload, rd, newObj, alit, aparts, astore, amapset, cellsOf, ev, avOf, av1, putF, upd, argF, TK.agg, aapp, asrc, one, aq.abuild, Nat.reduceEqDiff, Nat.reduceAdd, Nat.reduceLT, Nat.reduceLeDiff, Nat.reduceMul, Nat.reduceSub, reduceIte, reduceCtorEq, Int.reduceLE, Int.reduceToNat, Int.reduceLT, Int.reduceEq, Int.reduceAdd, Int.reduceSub, Int.reduceMul, Int.reduceNeg]
    have h4 : H b4 = none := by
      cases e : H b4 with
      | none => rfl
      | some o => have := hk _ _ (fun h => h) e; rw [hb4] at this; cases this
    exact hK _ _ ⟨b4, f2, f3, rfl, upd_same _ _ _, h4, hb4, (keeps.refl _ H1).new hb4 _⟩
  rintro fr H2 ⟨b4, f2, f3, f4, h4, n4, n41, hk2⟩
  refine awp_cutK (fun fr H' => ∃ b5, fr 2 = .ptr 5 b2 0 0 ∧ fr 3 = .ptr 1 b3 0 0 ∧ fr 4 = .ptr 1 b4 0 0 ∧ fr 5 = .ptr 1 b5 0 0 ∧ H' b5 = some (.rows 1 [[.nfn]]) ∧ H b5 = none ∧ H1 b5 = none ∧ H2 b5 = none ∧ keeps (fun _ => False) H2 H') (fun K hK => ?_) ?_
  · refine awp_region rfl ?_; simp only [AL, TY, aq, aint, astr, aWant, isPtr, abnd, ahi, alo, aload, rd, newObj, alit, aparts, astore, amapset, cellsOf, ev, avOf, av1, putF, upd, argF, TK.agg, aapp, asrc, one, aq.abuild, Nat.reduceEqDiff, Nat.reduceAdd, Nat.reduceLT, Nat.reduceLeDiff, Nat.reduceMul, Nat.reduceSub, reduceIte, reduceCtorEq, Int.reduceLE, Int.reduceToNat, Int.reduceLT, Int.reduceEq, Int.reduceAdd, Int.reduceSub, Int.reduceMul, Int.reduceNeg]
    refine awpN_intro fun b5 hb5 => ?_
    simp only [AL, TY, aq, aint, astr, aWant, isPtr, abnd, ahi, alo, aload, rd, newObj, alit, aparts, astore, amapset, cellsOf, ev, avOf, av1, putF, upd, argF, TK.agg, aapp, asrc, one, aq.abuild, Nat.reduceEqDiff, Nat.reduceAdd, Nat.reduceLT, Nat.reduceLeDiff, Nat.reduceMul, Nat.reduceSub, reduceIte, reduceCtorEq, Int.reduceLE, Int.reduceToNat, Int.reduceLT, Int.reduceEq, Int.reduceAdd, Int.reduceSub, Int.reduceMul, Int.reduceNeg]
    have h5 : H1 b5 = none := by
      cases e : H1 b5 with
      | none => rfl
      | some o => have := hk2 _ _ (fun h => h) e; rw [hb5] at this; cases this
    have h50 : H b5 = none := by
      cases e : H b5 with
      | none => rfl
      | some o => have := hk _ _ (fun h => h) e; rw [h5] at this; cases this
    exact hK _ _ ⟨b5, f2, f3, f4, rfl, upd_same _ _ _, h50, h5, hb5, (keeps.refl _ H2).new hb5 _⟩
  rintro fr H3 ⟨b5, f2, f3, f4, f5, h5, n5, n51, n52, hk3⟩
  have m2 := hk3 _ _ (fun h => h) (hk2 _ _ (fun h => h) h2)
  have m3 := hk3 _ _ (fun h => h) (hk2 _ _ (fun h => h) h3)
  have m4 := hk3 _ _ (fun h => h) h4
  have d25 : b2 ≠ b5 := fun e => by rw [e, n51] at h2; cases h2
  have d24 : b2 ≠ b4 := fun e => by rw [e, n41] at h2; cases h2
  have d35 : b3 ≠ b5 := fun e => by rw [e, n51] at h3; cases h3
  have d34 : b3 ≠ b4 := fun e => by rw [e, n41] at h3; cases h3
  have d45 : b4 ≠ b5 := fun e => by rw [e, n52] at h4; cases h4
  have d54 : b5 ≠ b4 := fun e => d45 e.symm
  refine awp_seq_k fun K hK => ?_; refine awp_region rfl ?_; simp only [AL, TY, aq, aint, astr, aWant, isPtr, abnd, ahi, alo, aload, rd, newObj, alit, aparts, astore, amapset, cellsOf, ev, avOf, av1, putF, upd, argF, TK.agg, aapp, asrc, one, aq.abuild, Nat.reduceEqDiff, Nat.reduceAdd, Nat.reduceLT, Nat.reduceLeDiff, Nat.reduceMul, Nat.reduceSub, reduceIte, reduceCtorEq, Int.reduceLE, Int.reduceToNat, Int.reduceLT, Int.reduceEq, Int.reduceAdd, Int.reduceSub, Int.reduceMul, Int.reduceNeg]
  simp only [f3, f5, h5, AL, TY, aq, aint, astr, aWant, isPtr, abnd, ahi, alo, aload, rd, newObj, alit, aparts, astore, amapset, cellsOf, ev, avOf, av1, putF, upd, argF, TK.agg, aapp, asrc, one, aq.abuild, Nat.reduceEqDiff, Nat.reduceAdd, Nat.reduceLT, Nat.reduceLeDiff, Nat.reduceMul, Nat.reduceSub, reduceIte, reduceCtorEq, Int.reduceLE, Int.reduceToNat, Int.reduceLT, Int.reduceEq, Int.reduceAdd, Int.reduceSub, Int.reduceMul, Int.reduceNeg]
  refine hK _ _ ?_; clear hK K
  have m4' : (upd H3 b5 (some (.rows 1 [[.fn (.func 48) [] [.ptr 1 b3 0 0, .ptr 1 b5 0 0]]]))) b4 = some (.rows 1 [[.nfn]]) := by simp only [upd, if_neg d45]; exact m4
  refine awp_seq_k fun K hK => ?_; refine awp_region rfl ?_; simp only [AL, TY, aq, aint, astr, aWant, isPtr, abnd, ahi, alo, aload, rd, newObj, alit, aparts, astore, amapset, cellsOf, ev, avOf, av1, putF, upd, argF, TK.agg, aapp, asrc, one, aq.abuild, Nat.reduceEqDiff, Nat.reduceAdd, Nat.reduceLT, Nat.reduceLeDiff, Nat.reduceMul, Nat.reduceSub, reduceIte, reduceCtorEq, Int.reduceLE, Int.reduceToNat, Int.reduceLT, Int.reduceEq, Int.reduceAdd, Int.reduceSub, Int.reduceMul, Int.reduceNeg]
  simp only [f3, f4, f5, d45, m4, AL, TY, aq, aint, astr, aWant, isPtr, abnd, ahi, alo, aload, rd, newObj, alit, aparts, astore, amapset, cellsOf, ev, avOf, av1, putF, upd, argF, TK.agg, aapp, asrc, one, aq.abuild, Nat.reduceEqDiff, Nat.reduceAdd, Nat.reduceLT, Nat.reduceLeDiff, Nat.reduceMul, Nat.reduceSub, reduceIte, reduceCtorEq, Int.reduceLE, Int.reduceToNat, Int.reduceLT, Int.reduceEq, Int.reduceAdd, Int.reduceSub, Int.reduceMul, Int.reduceNeg]
  refine hK _ _ ?_; clear hK K
  have j2 : (upd (upd H3 b5 (some (.rows 1 [[.fn (.func 48) [] [.ptr 1 b3 0 0, .ptr 1 b5 0 0]]]))) b4 (some (.rows 1 [[.fn (.func 49) [] [.ptr 1 b3 0 0, .ptr 1 b5 0 0, .ptr 1 b4 0 0]]]))) b2 = some (.rows 5 [[.str f.name, .isl 1 (f.params.map strRow), .isl 1 (f.locs.map strRow), .bool f.word, .isl 5 (f.body.map Sm.row)]]) := by simp only [upd, if_neg d25, if_neg d24]; exact m2
  have j3 : (upd (upd H3 b5 (some (.rows 1 [[.fn (.func 48) [] [.ptr 1 b3 0 0, .ptr 1 b5 0 0]]]))) b4 (some (.rows 1 [[.fn (.func 49) [] [.ptr 1 b3 0 0, .ptr 1 b5 0 0, .ptr 1 b4 0 0]]]))) b3 = some (.rows 1 [[.fn (.func g) [] caps]]) := by simp only [upd, if_neg d35, if_neg d34]; exact m3
  have j4 : (upd (upd H3 b5 (some (.rows 1 [[.fn (.func 48) [] [.ptr 1 b3 0 0, .ptr 1 b5 0 0]]]))) b4 (some (.rows 1 [[.fn (.func 49) [] [.ptr 1 b3 0 0, .ptr 1 b5 0 0, .ptr 1 b4 0 0]]]))) b4 = some (.rows 1 [[.fn (.func 49) [] [.ptr 1 b3 0 0, .ptr 1 b5 0 0, .ptr 1 b4 0 0]]]) := upd_same _ _ _
  have j5 : (upd (upd H3 b5 (some (.rows 1 [[.fn (.func 48) [] [.ptr 1 b3 0 0, .ptr 1 b5 0 0]]]))) b4 (some (.rows 1 [[.fn (.func 49) [] [.ptr 1 b3 0 0, .ptr 1 b5 0 0, .ptr 1 b4 0 0]]]))) b5 = some (.rows 1 [[.fn (.func 48) [] [.ptr 1 b3 0 0, .ptr 1 b5 0 0]]]) := by simp only [upd, if_neg d54, if_true]
  have hkk : keeps (fun _ => False) H (upd (upd H3 b5 (some (.rows 1 [[.fn (.func 48) [] [.ptr 1 b3 0 0, .ptr 1 b5 0 0]]]))) b4 (some (.rows 1 [[.fn (.func 49) [] [.ptr 1 b3 0 0, .ptr 1 b5 0 0, .ptr 1 b4 0 0]]]))) := (((hk.trans hk2).trans hk3).new n5 _).new n4 _
  generalize (upd (upd H3 b5 (some (.rows 1 [[.fn (.func 48) [] [.ptr 1 b3 0 0, .ptr 1 b5 0 0]]]))) b4 (some (.rows 1 [[.fn (.func 49) [] [.ptr 1 b3 0 0, .ptr 1 b5 0 0, .ptr 1 b4 0 0]]]))) = H4 at j2 j3 j4 j5 hkk ⊢
  have hD4 := V.ext _ _ _ hD hkk
  refine awp_region rfl ?_
  simp only [f2, f4, j2, j4, AL, TY, aq, aint, astr, aWant, isPtr, abnd, ahi, alo, aload, rd, newObj, alit, aparts, astore, amapset, cellsOf, ev, avOf, av1, putF, upd, argF, TK.agg, aapp, asrc, one, aq.abuild, Nat.reduceEqDiff, Nat.reduceAdd, Nat.reduceLT, Nat.reduceLeDiff, Nat.reduceMul, Nat.reduceSub, reduceIte, reduceCtorEq, Int.reduceLE, Int.reduceToNat, Int.reduceLT, Int.reduceEq, Int.reduceAdd, Int.reduceSub, Int.reduceMul, Int.reduceNeg]
  refine awpC_whole (visitS_con V b3 b5 b4 (fun h => hM _ h n3) (fun h => hM _ h n5) (fun h => hM _ h n4) _ f.body rfl hf.body s H4 j3 j5 j4 hD4) (SubL.refl _) (fun _ => trivial) fun v H' ⟨hv, hD', hkp⟩ => ?_
  subst hv
  simp only [bodyQ, aresult, ares, AL, TY, aq, aint, astr, aWant, isPtr, abnd, ahi, alo, aload, rd, newObj, alit, aparts, astore, amapset, cellsOf, ev, avOf, av1, putF, upd, argF, TK.agg, aapp, asrc, one, aq.abuild, Nat.reduceEqDiff, Nat.reduceAdd, Nat.reduceLT, Nat.reduceLeDiff, Nat.reduceMul, Nat.reduceSub, reduceIte, reduceCtorEq, Int.reduceLE, Int.reduceToNat, Int.reduceLT, Int.reduceEq, Int.reduceAdd, Int.reduceSub, Int.reduceMul, Int.reduceNeg]
  exact Gives.whole ⟨rfl, hD', (hkk.mono fun _ h => h.elim).trans hkp⟩
end Go.Proofs.Ytnbokmbjiioooaa
