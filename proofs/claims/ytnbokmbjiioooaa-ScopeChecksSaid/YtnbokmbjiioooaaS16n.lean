/- Chapter 16, the program's: Check. -/
import Derived.Test.YtnbokmbjiioooaaS16m
set_option linter.unusedSimpArgs false
set_option linter.unusedVariables false
namespace Go.Proofs.Ytnbokmbjiioooaa
open Go.Al
def chkV (p : Pg) (hp : p.few) (i : Nat) (hi : i < p.funs.length) (bn b5 b7 b1 b6 bo bi : Nat) (mo mi : List Th) (h56 : b5 ≠ b6) (hF : ∀ s, findM mo mi s = findF p i s) :
    Vis (Bool × Bool) 30 [.ptr 2 bn 0 0, .ptr 1 b5 0 0, .ptr 1 b7 0 0, .ptr 3 b1 0 0, .ptr 1 b6 0 0] where
  D := chkD p i bn b5 b7 b1 b6 bo bi mo mi
  step := stepC p i
  M := fun b => b = b5 ∨ b = b6
  spec := fun s H u hu hD => chk_con p hp i hi bn b5 b7 b1 b6 bo bi mo mi h56 hF s H u hu hD
  ext := fun s H H' hD hk => hD.ext hk
  old := fun s H hD b hb => by
    obtain ⟨_, h2, _, _, h5, _⟩ := hD
    rcases hb with rfl | rfl
    · rw [h2]; simp
    · rw [h5]; simp
theorem keeps_two {H : Hp} {x y : Nat} (hx : H x = none) (o o' : Option AObj) {H1 : Hp} (hk : keeps (fun _ => False) H H1) (hy : H1 y = none) : keeps (fun _ => False) H (upd (upd H1 y o) y o') := by
  intro b o2 _ hb
  have h2 := hk b o2 (fun h => h) hb
  have : b ≠ y := fun e => by rw [e, hy] at h2; cases h2
  simp only [upd, if_neg this]; exact h2
set_option maxHeartbeats 4000000 in
theorem Check_con (p : Pg) (hp : p.few) (h1 : 1 ≤ p.funs.length) : PCon env 11 [p.av] (.int .i64 (checkI p)) := by
  have hglob := globals_con p hp
  have hff : p.funs.length ≤ 10000 := hp.f
  have hok := hp.ok
  refine con_of 70 [.tmp 2] Try.func11 rfl rfl rfl rfl ?_
  simp only [Pg.av] at hglob ⊢
  refine awp_cutK (fun fr H => ∃ b1, fr 1 = .ptr 3 b1 0 0 ∧ H b1 = some (.rows 3 [p.row])) (fun K hK => ?_) ?_
  · refine awp_region rfl ?_; simp only [AL, TY, aq, aint, astr, aWant, isPtr, abnd, ahi, alo, aload, rd, newObj, alit, aparts, astore, amapset, cellsOf, ev, avOf, av1, putF, upd, argF, TK.agg, aapp, asrc, one, aq.abuild, Nat.reduceEqDiff, Nat.reduceAdd, Nat.reduceLT, Nat.reduceLeDiff, Nat.reduceMul, Nat.reduceSub, reduceIte, reduceCtorEq, Int.reduceLE, Int.reduceToNat, Int.reduceLT, Int.reduceEq, Int.reduceAdd, Int.reduceSub, Int.reduceMul, Int.reduceNeg]
    simp only [Pg.row]
    refine awpN_intro fun b1 hb1 => ?_
    simp only [AL, TY, aq, aint, astr, aWant, isPtr, abnd, ahi, alo, aload, rd, newObj, alit, aparts, astore, amapset, cellsOf, ev, avOf, av1, putF, upd, argF, TK.agg, aapp, asrc, one, aq.abuild, Nat.reduceEqDiff, Nat.reduceAdd, Nat.reduceLT, Nat.reduceLeDiff, Nat.reduceMul, Nat.reduceSub, reduceIte, reduceCtorEq, Int.reduceLE, Int.reduceToNat, Int.reduceLT, Int.reduceEq, Int.reduceAdd, Int.reduceSub, Int.reduceMul, Int.reduceNeg]
    exact hK _ _ ⟨b1, rfl, upd_same _ _ _⟩
  rintro fr H ⟨b1, f1, hb1⟩
  refine awp_cutK (fun fr H => ∃ bo, fr 1 = .ptr 3 b1 0 0 ∧ fr 3 = .mp bo ∧ fr 4 = .bool (stT (globT p)).2 ∧ H b1 = some (.rows 3 [p.row]) ∧ H bo = some (.amap ((stT (globT p)).1.map ent))) (fun K hK => ?_) ?_
  · refine awp_region rfl ?_
    have hb1' := hb1
    simp only [Pg.row] at hb1' hglob
    simp only [f1, hb1', AL, TY, aq, aint, astr, aWant, isPtr, abnd, ahi, alo, aload, rd, newObj, alit, aparts, astore, amapset, cellsOf, ev, avOf, av1, putF, upd, argF, TK.agg, aapp, asrc, one, aq.abuild, Nat.reduceEqDiff, Nat.reduceAdd, Nat.reduceLT, Nat.reduceLeDiff, Nat.reduceMul, Nat.reduceSub, reduceIte, reduceCtorEq, Int.reduceLE, Int.reduceToNat, Int.reduceLT, Int.reduceEq, Int.reduceAdd, Int.reduceSub, Int.reduceMul, Int.reduceNeg]
    refine awpC_makes hglob (SubL.refl _) fun v H' H2 ⟨bo, hv, hbo⟩ hk hn => ?_
    subst hv
    simp only [AL, TY, aq, aint, astr, aWant, isPtr, abnd, ahi, alo, aload, rd, newObj, alit, aparts, astore, amapset, cellsOf, ev, avOf, av1, putF, upd, argF, TK.agg, aapp, asrc, one, aq.abuild, Nat.reduceEqDiff, Nat.reduceAdd, Nat.reduceLT, Nat.reduceLeDiff, Nat.reduceMul, Nat.reduceSub, reduceIte, reduceCtorEq, Int.reduceLE, Int.reduceToNat, Int.reduceLT, Int.reduceEq, Int.reduceAdd, Int.reduceSub, Int.reduceMul, Int.reduceNeg]
    exact hK _ _ ⟨bo, f1, rfl, rfl, hk _ _ (fun h => h) hb1, (hn _ _ hbo).1⟩
  rintro fr H ⟨bo, f1, f3, f4, hb1, hbo⟩
  rw [stT_nodup, globT_names] at f4
  refine awp_cutK (fun fr H => ∃ b5 b6, fr 1 = .ptr 3 b1 0 0 ∧ fr 3 = .mp bo ∧ fr 5 = .ptr 1 b5 0 0 ∧ fr 6 = .ptr 1 b6 0 0 ∧ b5 ≠ b6 ∧ H b1 = some (.rows 3 [p.row]) ∧ H bo = some (.amap ((stT (globT p)).1.map ent)) ∧ H b5 = some (.rows 1 [[.bool (decide (globL p).Nodup)]]) ∧ H b6 = some (.rows 1 [[.bool true]])) (fun K hK => ?_) ?_
  · refine awp_region rfl ?_
    simp only [f4, AL, TY, aq, aint, astr, aWant, isPtr, abnd, ahi, alo, aload, rd, newObj, alit, aparts, astore, amapset, cellsOf, ev, avOf, av1, putF, upd, argF, TK.agg, aapp, asrc, one, aq.abuild, Nat.reduceEqDiff, Nat.reduceAdd, Nat.reduceLT, Nat.reduceLeDiff, Nat.reduceMul, Nat.reduceSub, reduceIte, reduceCtorEq, Int.reduceLE, Int.reduceToNat, Int.reduceLT, Int.reduceEq, Int.reduceAdd, Int.reduceSub, Int.reduceMul, Int.reduceNeg]
    refine awpN_intro fun b5 hb5 => ?_
    simp only [AL, TY, aq, aint, astr, aWant, isPtr, abnd, ahi, alo, aload, rd, newObj, alit, aparts, astore, amapset, cellsOf, ev, avOf, av1, putF, upd, argF, TK.agg, aapp, asrc, one, aq.abuild, Nat.reduceEqDiff, Nat.reduceAdd, Nat.reduceLT, Nat.reduceLeDiff, Nat.reduceMul, Nat.reduceSub, reduceIte, reduceCtorEq, Int.reduceLE, Int.reduceToNat, Int.reduceLT, Int.reduceEq, Int.reduceAdd, Int.reduceSub, Int.reduceMul, Int.reduceNeg]
    refine awpN_intro fun b6 hb6 => ?_
    have hne : b5 ≠ b6 := fun e => by rw [← e, upd_same] at hb6; cases hb6
    have hne' : b6 ≠ b5 := fun e => hne e.symm
    have h6 : H b6 = none := by simpa only [upd, if_neg hne'] using hb6
    have q1 : b1 ≠ b5 := fun e => by rw [e, hb5] at hb1; cases hb1
    have q2 : b1 ≠ b6 := fun e => by rw [e, h6] at hb1; cases hb1
    have q3 : bo ≠ b5 := fun e => by rw [e, hb5] at hbo; cases hbo
    have q4 : bo ≠ b6 := fun e => by rw [e, h6] at hbo; cases hbo
    simp only [upd, hne, hne', reduceIte, AL, TY, aq, aint, astr, aWant, isPtr, abnd, ahi, alo, aload, rd, newObj, alit, aparts, astore, amapset, cellsOf, ev, avOf, av1, putF, upd, argF, TK.agg, aapp, asrc, one, aq.abuild, Nat.reduceEqDiff, Nat.reduceAdd, Nat.reduceLT, Nat.reduceLeDiff, Nat.reduceMul, Nat.reduceSub, reduceIte, reduceCtorEq, Int.reduceLE, Int.reduceToNat, Int.reduceLT, Int.reduceEq, Int.reduceAdd, Int.reduceSub, Int.reduceMul, Int.reduceNeg]
    refine hK _ _ ⟨b5, b6, f1, f3, rfl, rfl, hne, ?_, ?_, ?_, ?_⟩
    · simp only [upd, if_neg q1, if_neg q2]; exact hb1
    · simp only [upd, if_neg q3, if_neg q4]; exact hbo
    · simp [upd, hne]
    · simp [upd]
  rintro fr H ⟨b5, b6, f1, f3, f5, f6, h56, hb1, hbo, hb5, hb6⟩
  refine awp_cutK (fun fr H => ∃ A B : Bool, fr 1 = .ptr 3 b1 0 0 ∧ fr 5 = .ptr 1 b5 0 0 ∧ fr 6 = .ptr 1 b6 0 0 ∧ H b1 = some (.rows 3 [p.row]) ∧ H b5 = some (.rows 1 [[.bool A]]) ∧ H b6 = some (.rows 1 [[.bool B]]) ∧ namesB p = A ∧ (namesB p = true → numsFrom p 0 p.funs = B)) (fun K hK => ?_) ?_
  · have hb1' := hb1
    simp only [Pg.row] at hb1'
    refine awp_seq_k fun K hK => ?_; refine awp_region rfl ?_; simp only [AL, TY, aq, aint, astr, aWant, isPtr, abnd, ahi, alo, aload, rd, newObj, alit, aparts, astore, amapset, cellsOf, ev, avOf, av1, putF, upd, argF, TK.agg, aapp, asrc, one, aq.abuild, Nat.reduceEqDiff, Nat.reduceAdd, Nat.reduceLT, Nat.reduceLeDiff, Nat.reduceMul, Nat.reduceSub, reduceIte, reduceCtorEq, Int.reduceLE, Int.reduceToNat, Int.reduceLT, Int.reduceEq, Int.reduceAdd, Int.reduceSub, Int.reduceMul, Int.reduceNeg]
    simp only [f1, hb1', List.length_map, AL, TY, aq, aint, astr, aWant, isPtr, abnd, ahi, alo, aload, rd, newObj, alit, aparts, astore, amapset, cellsOf, ev, avOf, av1, putF, upd, argF, TK.agg, aapp, asrc, one, aq.abuild, Nat.reduceEqDiff, Nat.reduceAdd, Nat.reduceLT, Nat.reduceLeDiff, Nat.reduceMul, Nat.reduceSub, reduceIte, reduceCtorEq, Int.reduceLE, Int.reduceToNat, Int.reduceLT, Int.reduceEq, Int.reduceAdd, Int.reduceSub, Int.reduceMul, Int.reduceNeg]
    refine hK _ _ ?_; clear hK K
    refine awp_block ?_
    refine awp_loopK (fun mm fr H => ∃ k : Nat, mm = p.funs.length - k ∧ k ≤ p.funs.length ∧ fr 22 = .int .i64 k ∧ ∃ A B : Bool, fr 20 = .isl 5 (p.funs.map Fu.row) ∧ fr 21 = .int .i64 p.funs.length ∧ fr 1 = .ptr 3 b1 0 0 ∧ fr 3 = .mp bo ∧ fr 5 = .ptr 1 b5 0 0 ∧ fr 6 = .ptr 1 b6 0 0 ∧ H b1 = some (.rows 3 [p.row]) ∧ H bo = some (.amap ((stT (globT p)).1.map ent)) ∧ H b5 = some (.rows 1 [[.bool A]]) ∧ H b6 = some (.rows 1 [[.bool B]]) ∧ namesB p = (A && namesFrom p k (p.funs.drop k)) ∧ (namesB p = true → numsFrom p 0 p.funs = (B && numsFrom p k (p.funs.drop k)))) (p.funs.length) ⟨0, rfl, Nat.zero_le _, rfl, decide (globL p).Nodup, true, rfl, rfl, f1, f3, f5, f6, hb1, hbo, hb5, hb6, rfl, fun _ => rfl⟩ ?_
    rintro mm fr H ⟨k, rfl, hkk, hik, A, B, fS, fL, f1, f3, f5, f6, hb1, hbo, hb5, hb6, hA, hB⟩ K2 hK2
    refine awp_seq_k fun K hK => ?_; refine awp_region rfl ?_; simp only [AL, TY, aq, aint, astr, aWant, isPtr, abnd, ahi, alo, aload, rd, newObj, alit, aparts, astore, amapset, cellsOf, ev, avOf, av1, putF, upd, argF, TK.agg, aapp, asrc, one, aq.abuild, Nat.reduceEqDiff, Nat.reduceAdd, Nat.reduceLT, Nat.reduceLeDiff, Nat.reduceMul, Nat.reduceSub, reduceIte, reduceCtorEq, Int.reduceLE, Int.reduceToNat, Int.reduceLT, Int.reduceEq, Int.reduceAdd, Int.reduceSub, Int.reduceMul, Int.reduceNeg]
    simp only [hik, fL,List.length_map, AL, TY, aq, aint, astr, aWant, isPtr, abnd, ahi, alo, aload, rd, newObj, alit, aparts, astore, amapset, cellsOf, ev, avOf, av1, putF, upd, argF, TK.agg, aapp, asrc, one, aq.abuild, Nat.reduceEqDiff, Nat.reduceAdd, Nat.reduceLT, Nat.reduceLeDiff, Nat.reduceMul, Nat.reduceSub, reduceIte, reduceCtorEq, Int.reduceLE, Int.reduceToNat, Int.reduceLT, Int.reduceEq, Int.reduceAdd, Int.reduceSub, Int.reduceMul, Int.reduceNeg]
    refine hK _ _ ?_; clear hK K
    refine awp_seq ?_
    refine awp_if _ rfl (fun hc => ?_) (fun hc => ?_)
    · have hltk : k < p.funs.length := by have := of_decide_eq_true hc; omega
      clear hc
      refine awp_skip ?_; simp only [thenQ, blockQ]
      refine awp_seq ?_
      refine awp_block ?_
      have hg0 := List.getElem?_eq_getElem hltk
      have hg := getF hg0
      have hfs := hp.fs _ (List.getElem_mem hltk)
      have hokf := hok.funs _ (List.getElem_mem hltk)
      have hFind := find_eq16 p k _ hg0
      have hng := fun h => (namesFrom_get p p.funs 0 h k _ hg0).2
      rw [List.drop_eq_getElem_cons hltk, namesFrom] at hA
      rw [List.drop_eq_getElem_cons hltk, numsFrom] at hB
      generalize p.funs[k] = f at hg hfs hokf hFind hA hB hng
      have hloc := locals_con f (by omega) (by omega)
      refine awp_cutK (fun fr H => ∃ b7 b8, fr 20 = .isl 5 (p.funs.map Fu.row) ∧ fr 21 = .int .i64 p.funs.length ∧ fr 22 = .int .i64 k ∧ fr 1 = .ptr 3 b1 0 0 ∧ fr 3 = .mp bo ∧ fr 5 = .ptr 1 b5 0 0 ∧ fr 6 = .ptr 1 b6 0 0 ∧ fr 7 = .ptr 1 b7 0 0 ∧ fr 8 = .ptr 5 b8 0 0 ∧ H b1 = some (.rows 3 [p.row]) ∧ H bo = some (.amap ((stT (globT p)).1.map ent)) ∧ H b5 = some (.rows 1 [[.bool A]]) ∧ H b6 = some (.rows 1 [[.bool B]]) ∧ H b7 = some (.rows 1 [[.int .i64 k]]) ∧ H b8 = some (.rows 5 [f.row])) (fun K hK => ?_) ?_
      · refine awp_region rfl ?_
        simp only [fS, hik, hg, AL, TY, aq, aint, astr, aWant, isPtr, abnd, ahi, alo, aload, rd, newObj, alit, aparts, astore, amapset, cellsOf, ev, avOf, av1, putF, upd, argF, TK.agg, aapp, asrc, one, aq.abuild, Nat.reduceEqDiff, Nat.reduceAdd, Nat.reduceLT, Nat.reduceLeDiff, Nat.reduceMul, Nat.reduceSub, reduceIte, reduceCtorEq, Int.reduceLE, Int.reduceToNat, Int.reduceLT, Int.reduceEq, Int.reduceAdd, Int.reduceSub, Int.reduceMul, Int.reduceNeg]
        refine awpN_intro fun b7 hb7 => ?_
        simp only [AL, TY, aq, aint, astr, aWant, isPtr, abnd, ahi, alo, aload, rd, newObj, alit, aparts, astore, amapset, cellsOf, ev, avOf, av1, putF, upd, argF, TK.agg, aapp, asrc, one, aq.abuild, Nat.reduceEqDiff, Nat.reduceAdd, Nat.reduceLT, Nat.reduceLeDiff, Nat.reduceMul, Nat.reduceSub, reduceIte, reduceCtorEq, Int.reduceLE, Int.reduceToNat, Int.reduceLT, Int.reduceEq, Int.reduceAdd, Int.reduceSub, Int.reduceMul, Int.reduceNeg]
        refine awpN_intro fun b8 hb8 => ?_
        have hne : b7 ≠ b8 := fun e => by rw [← e, upd_same] at hb8; cases hb8
        have hne' : b8 ≠ b7 := fun e => hne e.symm
        have h8 : H b8 = none := by simpa only [upd, if_neg hne'] using hb8
        have old : ∀ (x : Nat) (o : AObj), H x = some o → x ≠ b7 ∧ x ≠ b8 := fun x o hx => ⟨fun e => (by rw [e, hb7] at hx; cases hx), fun e => (by rw [e, h8] at hx; cases hx)⟩
        simp only [upd, hne, hne', reduceIte, AL, TY, aq, aint, astr, aWant, isPtr, abnd, ahi, alo, aload, rd, newObj, alit, aparts, astore, amapset, cellsOf, ev, avOf, av1, putF, upd, argF, TK.agg, aapp, asrc, one, aq.abuild, Nat.reduceEqDiff, Nat.reduceAdd, Nat.reduceLT, Nat.reduceLeDiff, Nat.reduceMul, Nat.reduceSub, reduceIte, reduceCtorEq, Int.reduceLE, Int.reduceToNat, Int.reduceLT, Int.reduceEq, Int.reduceAdd, Int.reduceSub, Int.reduceMul, Int.reduceNeg]
        refine hK _ _ ⟨b7, b8, fS, fL, hik, f1, f3, f5, f6, rfl, rfl, ?_, ?_, ?_, ?_, ?_, ?_⟩
        · obtain ⟨e1, e2⟩ := old _ _ hb1; simp only [upd, if_neg e1, if_neg e2]; exact hb1
        · obtain ⟨e1, e2⟩ := old _ _ hbo; simp only [upd, if_neg e1, if_neg e2]; exact hbo
        · obtain ⟨e1, e2⟩ := old _ _ hb5; simp only [upd, if_neg e1, if_neg e2]; exact hb5
        · obtain ⟨e1, e2⟩ := old _ _ hb6; simp only [upd, if_neg e1, if_neg e2]; exact hb6
        · simp [upd, hne]
        · simp [upd, Fu.row]
      rintro fr H ⟨b7, b8, fS, fL, hik, f1, f3, f5, f6, f7, f8, hb1, hbo, hb5, hb6, hb7, hb8⟩
      refine awp_cutK (fun fr H => ∃ bi, fr 20 = .isl 5 (p.funs.map Fu.row) ∧ fr 21 = .int .i64 p.funs.length ∧ fr 22 = .int .i64 k ∧ fr 1 = .ptr 3 b1 0 0 ∧ fr 3 = .mp bo ∧ fr 5 = .ptr 1 b5 0 0 ∧ fr 6 = .ptr 1 b6 0 0 ∧ fr 7 = .ptr 1 b7 0 0 ∧ fr 8 = .ptr 5 b8 0 0 ∧ fr 9 = .mp bi ∧ fr 10 = .bool (decide (namesL f).Nodup) ∧ H b1 = some (.rows 3 [p.row]) ∧ H bo = some (.amap ((stT (globT p)).1.map ent)) ∧ H b5 = some (.rows 1 [[.bool A]]) ∧ H b6 = some (.rows 1 [[.bool B]]) ∧ H b7 = some (.rows 1 [[.int .i64 k]]) ∧ H b8 = some (.rows 5 [f.row]) ∧ H bi = some (.amap ((stT (locT f)).1.map ent))) (fun K hK => ?_) ?_
      · refine awp_region rfl ?_
        have hb8' := hb8
        simp only [Fu.row] at hb8' hloc
        simp only [f8, hb8', AL, TY, aq, aint, astr, aWant, isPtr, abnd, ahi, alo, aload, rd, newObj, alit, aparts, astore, amapset, cellsOf, ev, avOf, av1, putF, upd, argF, TK.agg, aapp, asrc, one, aq.abuild, Nat.reduceEqDiff, Nat.reduceAdd, Nat.reduceLT, Nat.reduceLeDiff, Nat.reduceMul, Nat.reduceSub, reduceIte, reduceCtorEq, Int.reduceLE, Int.reduceToNat, Int.reduceLT, Int.reduceEq, Int.reduceAdd, Int.reduceSub, Int.reduceMul, Int.reduceNeg]
        refine awpC_makes hloc (SubL.refl _) fun v H' H2 ⟨bi, hv, hbi⟩ hk hn => ?_
        subst hv
        rw [stT_nodup, locT_names]
        simp only [AL, TY, aq, aint, astr, aWant, isPtr, abnd, ahi, alo, aload, rd, newObj, alit, aparts, astore, amapset, cellsOf, ev, avOf, av1, putF, upd, argF, TK.agg, aapp, asrc, one, aq.abuild, Nat.reduceEqDiff, Nat.reduceAdd, Nat.reduceLT, Nat.reduceLeDiff, Nat.reduceMul, Nat.reduceSub, reduceIte, reduceCtorEq, Int.reduceLE, Int.reduceToNat, Int.reduceLT, Int.reduceEq, Int.reduceAdd, Int.reduceSub, Int.reduceMul, Int.reduceNeg]
        exact hK _ _ ⟨bi, fS, fL, hik, f1, f3, f5, f6, f7, f8, rfl, rfl, hk _ _ (fun h => h) hb1, hk _ _ (fun h => h) hbo, hk _ _ (fun h => h) hb5, hk _ _ (fun h => h) hb6, hk _ _ (fun h => h) hb7, hk _ _ (fun h => h) hb8, (hn _ _ hbi).1⟩
      rintro fr H ⟨bi, fS, fL, hik, f1, f3, f5, f6, f7, f8, f9, f10, hb1, hbo, hb5, hb6, hb7, hb8, hbi⟩
      refine awp_cutK (fun fr H => fr 20 = .isl 5 (p.funs.map Fu.row) ∧ fr 21 = .int .i64 p.funs.length ∧ fr 22 = .int .i64 k ∧ fr 1 = .ptr 3 b1 0 0 ∧ fr 3 = .mp bo ∧ fr 5 = .ptr 1 b5 0 0 ∧ fr 6 = .ptr 1 b6 0 0 ∧ fr 7 = .ptr 1 b7 0 0 ∧ fr 8 = .ptr 5 b8 0 0 ∧ fr 9 = .mp bi ∧ H b1 = some (.rows 3 [p.row]) ∧ H bo = some (.amap ((stT (globT p)).1.map ent)) ∧ H b5 = some (.rows 1 [[.bool (A && decide (namesL f).Nodup)]]) ∧ H b6 = some (.rows 1 [[.bool B]]) ∧ H b7 = some (.rows 1 [[.int .i64 k]]) ∧ H b8 = some (.rows 5 [f.row]) ∧ H bi = some (.amap ((stT (locT f)).1.map ent))) (fun K hK => ?_) ?_
      · have old : ∀ (x : Nat) (o : AObj), H x = some o → o ≠ .rows 1 [[.bool A]] → x ≠ b5 := fun x o hx ho e => by rw [e, hb5] at hx; cases hx; exact ho rfl
        have m1 := old _ _ hb1 (by simp)
        have mo := old _ _ hbo (by simp)
        have m6 : b6 ≠ b5 := fun e => h56 e.symm
        have m7 := old _ _ hb7 (by simp)
        have m8 := old _ _ hb8 (by simp)
        have mi := old _ _ hbi (by simp)
        have fin : ∀ fr' : Fr, (∀ j, j = 20 ∨ j = 21 ∨ j = 22 ∨ j = 1 ∨ j = 3 ∨ j = 5 ∨ j = 6 ∨ j = 7 ∨ j = 8 ∨ j = 9 → fr' j = fr j) → K fr' (upd H b5 (some (.rows 1 [[.bool (A && decide (namesL f).Nodup)]]))) := fun fr' h => by
          refine hK _ _ ⟨(h 20 (by simp)).trans fS, (h 21 (by simp)).trans fL, (h 22 (by simp)).trans hik, (h 1 (by simp)).trans f1, (h 3 (by simp)).trans f3, (h 5 (by simp)).trans f5, (h 6 (by simp)).trans f6, (h 7 (by simp)).trans f7, (h 8 (by simp)).trans f8, (h 9 (by simp)).trans f9, ?_, ?_, upd_same _ _ _, ?_, ?_, ?_, ?_⟩
          · simp only [upd, if_neg m1]; exact hb1
          · simp only [upd, if_neg mo]; exact hbo
          · simp only [upd, if_neg m6]; exact hb6
          · simp only [upd, if_neg m7]; exact hb7
          · simp only [upd, if_neg m8]; exact hb8
          · simp only [upd, if_neg mi]; exact hbi
        cases hAc : A with
        | false =>
          rw [hAc] at hb5 fin
          refine awp_region rfl ?_
          simp only [f5, f10, hb5, AL, TY, aq, aint, astr, aWant, isPtr, abnd, ahi, alo, aload, rd, newObj, alit, aparts, astore, amapset, cellsOf, ev, avOf, av1, putF, upd, argF, TK.agg, aapp, asrc, one, aq.abuild, Nat.reduceEqDiff, Nat.reduceAdd, Nat.reduceLT, Nat.reduceLeDiff, Nat.reduceMul, Nat.reduceSub, reduceIte, reduceCtorEq, Int.reduceLE, Int.reduceToNat, Int.reduceLT, Int.reduceEq, Int.reduceAdd, Int.reduceSub, Int.reduceMul, Int.reduceNeg]
          refine fin _ fun j hj => ?_
          rcases hj with rfl | rfl | rfl | rfl | rfl | rfl | rfl | rfl | rfl | rfl <;> rfl
        | true =>
          rw [hAc] at hb5 fin
          refine awp_region rfl ?_
          simp only [f5, f10, hb5, AL, TY, aq, aint, astr, aWant, isPtr, abnd, ahi, alo, aload, rd, newObj, alit, aparts, astore, amapset, cellsOf, ev, avOf, av1, putF, upd, argF, TK.agg, aapp, asrc, one, aq.abuild, Nat.reduceEqDiff, Nat.reduceAdd, Nat.reduceLT, Nat.reduceLeDiff, Nat.reduceMul, Nat.reduceSub, reduceIte, reduceCtorEq, Int.reduceLE, Int.reduceToNat, Int.reduceLT, Int.reduceEq, Int.reduceAdd, Int.reduceSub, Int.reduceMul, Int.reduceNeg]
          refine fin _ fun j hj => ?_
          rcases hj with rfl | rfl | rfl | rfl | rfl | rfl | rfl | rfl | rfl | rfl <;> rfl
      rintro fr H ⟨fS, fL, hik, f1, f3, f5, f6, f7, f8, f9, hb1, hbo, hb5, hb6, hb7, hb8, hbi⟩
      refine awp_seq_k fun K hK => ?_; refine awp_region rfl ?_; simp only [AL, TY, aq, aint, astr, aWant, isPtr, abnd, ahi, alo, aload, rd, newObj, alit, aparts, astore, amapset, cellsOf, ev, avOf, av1, putF, upd, argF, TK.agg, aapp, asrc, one, aq.abuild, Nat.reduceEqDiff, Nat.reduceAdd, Nat.reduceLT, Nat.reduceLeDiff, Nat.reduceMul, Nat.reduceSub, reduceIte, reduceCtorEq, Int.reduceLE, Int.reduceToNat, Int.reduceLT, Int.reduceEq, Int.reduceAdd, Int.reduceSub, Int.reduceMul, Int.reduceNeg]
      simp only [f3, f9, AL, TY, aq, aint, astr, aWant, isPtr, abnd, ahi, alo, aload, rd, newObj, alit, aparts, astore, amapset, cellsOf, ev, avOf, av1, putF, upd, argF, TK.agg, aapp, asrc, one, aq.abuild, Nat.reduceEqDiff, Nat.reduceAdd, Nat.reduceLT, Nat.reduceLeDiff, Nat.reduceMul, Nat.reduceSub, reduceIte, reduceCtorEq, Int.reduceLE, Int.reduceToNat, Int.reduceLT, Int.reduceEq, Int.reduceAdd, Int.reduceSub, Int.reduceMul, Int.reduceNeg]
      refine awpN_intro fun bn hbn => ?_
      simp only [AL, TY, aq, aint, astr, aWant, isPtr, abnd, ahi, alo, aload, rd, newObj, alit, aparts, astore, amapset, cellsOf, ev, avOf, av1, putF, upd, argF, TK.agg, aapp, asrc, one, aq.abuild, Nat.reduceEqDiff, Nat.reduceAdd, Nat.reduceLT, Nat.reduceLeDiff, Nat.reduceMul, Nat.reduceSub, reduceIte, reduceCtorEq, Int.reduceLE, Int.reduceToNat, Int.reduceLT, Int.reduceEq, Int.reduceAdd, Int.reduceSub, Int.reduceMul, Int.reduceNeg]
      refine hK _ _ ?_; clear hK K
      have hkn : keeps (fun _ => False) H (upd (upd H bn (some (.rows 2 [[.nmp, .nmp]]))) bn (some (.rows 2 [[.mp bo, .mp bi]]))) := ((keeps.refl _ H).new hbn _).new hbn _
      have hn2 : (upd (upd H bn (some (.rows 2 [[.nmp, .nmp]]))) bn (some (.rows 2 [[.mp bo, .mp bi]]))) bn = some (.rows 2 [[.mp bo, .mp bi]]) := upd_same _ _ _
      generalize (upd (upd H bn (some (.rows 2 [[.nmp, .nmp]]))) bn (some (.rows 2 [[.mp bo, .mp bi]]))) = H1 at hkn hn2 ⊢
      have kp : ∀ (x : Nat) (o : AObj), H x = some o → H1 x = some o := fun x o h => hkn x o (fun h => h) h
      have hD : chkD p k bn b5 b7 b1 b6 bo bi (stT (globT p)).1 (stT (locT f)).1 (A && decide (namesL f).Nodup, B) H1 := ⟨hn2, kp _ _ hb5, kp _ _ hb7, kp _ _ hb1, kp _ _ hb6, kp _ _ hbo, kp _ _ hbi⟩
      have hvis := visit_con (chkV p hp k hltk bn b5 b7 b1 b6 bo bi _ _ h56 hFind) f hokf _ H1 hD
      have hb8' := kp _ _ hb8
      simp only [Fu.row] at hb8' hvis
      refine awp_region rfl ?_
      simp only [f1, f5, f6, f7, f8, hb8', AL, TY, aq, aint, astr, aWant, isPtr, abnd, ahi, alo, aload, rd, newObj, alit, aparts, astore, amapset, cellsOf, ev, avOf, av1, putF, upd, argF, TK.agg, aapp, asrc, one, aq.abuild, Nat.reduceEqDiff, Nat.reduceAdd, Nat.reduceLT, Nat.reduceLeDiff, Nat.reduceMul, Nat.reduceSub, reduceIte, reduceCtorEq, Int.reduceLE, Int.reduceToNat, Int.reduceLT, Int.reduceEq, Int.reduceAdd, Int.reduceSub, Int.reduceMul, Int.reduceNeg]
      refine awpC_whole hvis (SubL.refl _) (fun _ => trivial) fun v H2 ⟨hv, hD2, hkp⟩ => ?_
      subst hv
      simp only [thenQ, blockQ, AL, TY, aq, aint, astr, aWant, isPtr, abnd, ahi, alo, aload, rd, newObj, alit, aparts, astore, amapset, cellsOf, ev, avOf, av1, putF, upd, argF, TK.agg, aapp, asrc, one, aq.abuild, Nat.reduceEqDiff, Nat.reduceAdd, Nat.reduceLT, Nat.reduceLeDiff, Nat.reduceMul, Nat.reduceSub, reduceIte, reduceCtorEq, Int.reduceLE, Int.reduceToNat, Int.reduceLT, Int.reduceEq, Int.reduceAdd, Int.reduceSub, Int.reduceMul, Int.reduceNeg]
      rw [show (chkV p hp k hltk bn b5 b7 b1 b6 bo bi _ _ h56 hFind).step = stepC p k from rfl, foldC] at hD2
      obtain ⟨_, g5, _, g1, g6, go, _⟩ := hD2
      refine awp_region rfl ?_; simp only [AL, TY, aq, aint, astr, aWant, isPtr, abnd, ahi, alo, aload, rd, newObj, alit, aparts, astore, amapset, cellsOf, ev, avOf, av1, putF, upd, argF, TK.agg, aapp, asrc, one, aq.abuild, Nat.reduceEqDiff, Nat.reduceAdd, Nat.reduceLT, Nat.reduceLeDiff, Nat.reduceMul, Nat.reduceSub, reduceIte, reduceCtorEq, Int.reduceLE, Int.reduceToNat, Int.reduceLT, Int.reduceEq, Int.reduceAdd, Int.reduceSub, Int.reduceMul, Int.reduceNeg]
      simp only [hik, thenQ, blockQ, AL, TY, aq, aint, astr, aWant, isPtr, abnd, ahi, alo, aload, rd, newObj, alit, aparts, astore, amapset, cellsOf, ev, avOf, av1, putF, upd, argF, TK.agg, aapp, asrc, one, aq.abuild, Nat.reduceEqDiff, Nat.reduceAdd, Nat.reduceLT, Nat.reduceLeDiff, Nat.reduceMul, Nat.reduceSub, reduceIte, reduceCtorEq, Int.reduceLE, Int.reduceToNat, Int.reduceLT, Int.reduceEq, Int.reduceAdd, Int.reduceSub, Int.reduceMul, Int.reduceNeg]
      rw [IntWalk.i64_in _ (by omega)]
      refine hK2 (p.funs.length - (k + 1)) _ _ (by omega) ⟨k + 1, rfl, by omega, rfl, _, _, fS, fL, f1, f3, f5, f6, g1, go, g5, g6, ?_, ?_⟩
      · rw [hA]; simp only [Bool.and_assoc]
      · intro hn
        have hn0 := hn
        rw [hB hn]
        simp only [namesB, Bool.and_eq_true] at hn
        have hall := hng hn.2
        rw [Nat.zero_add] at hall
        have : (usesS f.body).all (fun u => !okUse p k u || numU p k u) = (usesS f.body).all (numU p k) := by
          rw [List.all_eq_true] at hall
          rw [Bool.eq_iff_iff, List.all_eq_true, List.all_eq_true]
          constructor
          · intro h u hu
            have := h u hu
            rw [hall u hu] at this
            simpa using this
          · intro h u hu
            rw [h u hu]; simp
        simp only [this, Bool.and_assoc]
    · refine awp_exit ?_; simp only [thenQ, blockQ, reduceIte, Nat.reduceEqDiff]
      have hknk : k = p.funs.length := by have := of_decide_eq_false hc; omega
      clear hc
      subst hknk
      rw [List.drop_length] at hA hB
      exact hK _ _ ⟨A, B, f1, f5, f6, hb1, hb5, hb6, by rw [hA, namesFrom, Bool.and_true], fun h => by rw [hB h, numsFrom, Bool.and_true]⟩
  rintro fr H ⟨A, B, f1, f5, f6, hb1, hb5, hb6, hA, hB⟩
  have hC : checkI p = if namesB p then (if numsB p then 0 else 1) else 4 := rfl
  have hNm : numsB p = (numsFrom p 0 p.funs && lastB p) := rfl
  have hL : lastB p = match p.funs[p.funs.length - 1]? with | some g => decide (g.name = mainS) && decide (g.params.length = 0) && !g.word | none => false := rfl
  refine awp_seq ?_
  cases hAc : A with
  | false =>
    rw [hAc] at hb5 hA
    repeat' (first | (refine awp_seq_k fun K hK => ?_; refine awp_region rfl ?_; simp only [f5, hb5, AL, TY, aq, aint, astr, aWant, isPtr, abnd, ahi, alo, aload, rd, newObj, alit, aparts, astore, amapset, cellsOf, ev, avOf, av1, putF, upd, argF, TK.agg, aapp, asrc, one, aq.abuild, Nat.reduceEqDiff, Nat.reduceAdd, Nat.reduceLT, Nat.reduceLeDiff, Nat.reduceMul, Nat.reduceSub, reduceIte, reduceCtorEq, Int.reduceLE, Int.reduceToNat, Int.reduceLT, Int.reduceEq, Int.reduceAdd, Int.reduceSub, Int.reduceMul, Int.reduceNeg]; refine hK _ _ ?_; clear hK K) | (refine awp_seq ?_) | (refine awp_block ?_) | (refine awp_if true rfl (fun _ => ?_) (fun hc => by cases hc)) | (refine awp_if false rfl (fun hc => by cases hc) (fun _ => ?_)) | (refine awp_skip ?_; simp only [thenQ, blockQ]) | (refine awp_exit ?_; simp only [thenQ, blockQ, reduceIte, Nat.reduceEqDiff]) | (refine awp_region rfl ?_; simp only [f5, hb5, thenQ, blockQ, AL, TY, aq, aint, astr, aWant, isPtr, abnd, ahi, alo, aload, rd, newObj, alit, aparts, astore, amapset, cellsOf, ev, avOf, av1, putF, upd, argF, TK.agg, aapp, asrc, one, aq.abuild, Nat.reduceEqDiff, Nat.reduceAdd, Nat.reduceLT, Nat.reduceLeDiff, Nat.reduceMul, Nat.reduceSub, reduceIte, reduceCtorEq, Int.reduceLE, Int.reduceToNat, Int.reduceLT, Int.reduceEq, Int.reduceAdd, Int.reduceSub, Int.reduceMul, Int.reduceNeg]) | (refine awpG_splitN (fun h => ?_) (fun h => ?_) <;> simp only [h, f5, hb5, thenQ, blockQ, AL, TY, aq, aint, astr, aWant, isPtr, abnd, ahi, alo, aload, rd, newObj, alit, aparts, astore, amapset, cellsOf, ev, avOf, av1, putF, upd, argF, TK.agg, aapp, asrc, one, aq.abuild, Nat.reduceEqDiff, Nat.reduceAdd, Nat.reduceLT, Nat.reduceLeDiff, Nat.reduceMul, Nat.reduceSub, reduceIte, reduceCtorEq, Int.reduceLE, Int.reduceToNat, Int.reduceLT, Int.reduceEq, Int.reduceAdd, Int.reduceSub, Int.reduceMul, Int.reduceNeg]) | (refine awpG_split (fun h => ?_) (fun h => ?_) <;> simp only [h, f5, hb5, thenQ, blockQ, AL, TY, aq, aint, astr, aWant, isPtr, abnd, ahi, alo, aload, rd, newObj, alit, aparts, astore, amapset, cellsOf, ev, avOf, av1, putF, upd, argF, TK.agg, aapp, asrc, one, aq.abuild, Nat.reduceEqDiff, Nat.reduceAdd, Nat.reduceLT, Nat.reduceLeDiff, Nat.reduceMul, Nat.reduceSub, reduceIte, reduceCtorEq, Int.reduceLE, Int.reduceToNat, Int.reduceLT, Int.reduceEq, Int.reduceAdd, Int.reduceSub, Int.reduceMul, Int.reduceNeg]) | (refine awp_if _ rfl (fun h => ?_) (fun h => ?_)) | (refine awp_ret ?_; simp only [thenQ, blockQ, bodyQ, aresult, ares, argF, f5, hb5, AL, TY, aq, aint, astr, aWant, isPtr, abnd, ahi, alo, aload, rd, newObj, alit, aparts, astore, amapset, cellsOf, ev, avOf, av1, putF, upd, argF, TK.agg, aapp, asrc, one, aq.abuild, Nat.reduceEqDiff, Nat.reduceAdd, Nat.reduceLT, Nat.reduceLeDiff, Nat.reduceMul, Nat.reduceSub, reduceIte, reduceCtorEq, Int.reduceLE, Int.reduceToNat, Int.reduceLT, Int.reduceEq, Int.reduceAdd, Int.reduceSub, Int.reduceMul, Int.reduceNeg]; refine Gives.pure ?_))
    rw [hC, hA]; rfl
  | true =>
    rw [hAc] at hb5 hA
    refine awp_seq_k fun K hK => ?_; refine awp_region rfl ?_; simp only [AL, TY, aq, aint, astr, aWant, isPtr, abnd, ahi, alo, aload, rd, newObj, alit, aparts, astore, amapset, cellsOf, ev, avOf, av1, putF, upd, argF, TK.agg, aapp, asrc, one, aq.abuild, Nat.reduceEqDiff, Nat.reduceAdd, Nat.reduceLT, Nat.reduceLeDiff, Nat.reduceMul, Nat.reduceSub, reduceIte, reduceCtorEq, Int.reduceLE, Int.reduceToNat, Int.reduceLT, Int.reduceEq, Int.reduceAdd, Int.reduceSub, Int.reduceMul, Int.reduceNeg]
    simp only [f5, hb5, AL, TY, aq, aint, astr, aWant, isPtr, abnd, ahi, alo, aload, rd, newObj, alit, aparts, astore, amapset, cellsOf, ev, avOf, av1, putF, upd, argF, TK.agg, aapp, asrc, one, aq.abuild, Nat.reduceEqDiff, Nat.reduceAdd, Nat.reduceLT, Nat.reduceLeDiff, Nat.reduceMul, Nat.reduceSub, reduceIte, reduceCtorEq, Int.reduceLE, Int.reduceToNat, Int.reduceLT, Int.reduceEq, Int.reduceAdd, Int.reduceSub, Int.reduceMul, Int.reduceNeg]
    refine hK _ _ ?_; clear hK K
    refine awp_if false rfl (fun hc => by cases hc) (fun _ => ?_)
    refine awp_skip ?_; simp only [thenQ, blockQ]
    have hlt : p.funs.length - 1 < p.funs.length := by omega
    have hg := getF (List.getElem?_eq_getElem hlt)
    rw [List.getElem?_eq_getElem hlt] at hL
    generalize p.funs[p.funs.length - 1] = g at hg hL
    have w1 : IntKind.wrap .i64 ((p.funs.length : Int) - 1) = ((p.funs.length - 1 : Nat) : Int) := by rw [IntWalk.i64_in _ (by omega)]; omega
    have d1 : decide ((0 : Int) < g.params.length) = !decide (g.params.length = 0) := by rw [Bool.eq_iff_iff]; simp only [decide_eq_true_eq, Bool.not_eq_true', decide_eq_false_iff_not]; omega
    simp only [Pg.row] at hb1
    refine awp_seq_k fun K hK => ?_; refine awp_region rfl ?_; simp only [AL, TY, aq, aint, astr, aWant, isPtr, abnd, ahi, alo, aload, rd, newObj, alit, aparts, astore, amapset, cellsOf, ev, avOf, av1, putF, upd, argF, TK.agg, aapp, asrc, one, aq.abuild, Nat.reduceEqDiff, Nat.reduceAdd, Nat.reduceLT, Nat.reduceLeDiff, Nat.reduceMul, Nat.reduceSub, reduceIte, reduceCtorEq, Int.reduceLE, Int.reduceToNat, Int.reduceLT, Int.reduceEq, Int.reduceAdd, Int.reduceSub, Int.reduceMul, Int.reduceNeg]
    simp only [f1, hb1, w1, hg, List.length_map, AL, TY, aq, aint, astr, aWant, isPtr, abnd, ahi, alo, aload, rd, newObj, alit, aparts, astore, amapset, cellsOf, ev, avOf, av1, putF, upd, argF, TK.agg, aapp, asrc, one, aq.abuild, Nat.reduceEqDiff, Nat.reduceAdd, Nat.reduceLT, Nat.reduceLeDiff, Nat.reduceMul, Nat.reduceSub, reduceIte, reduceCtorEq, Int.reduceLE, Int.reduceToNat, Int.reduceLT, Int.reduceEq, Int.reduceAdd, Int.reduceSub, Int.reduceMul, Int.reduceNeg]
    refine awpN_intro fun bl hbl => ?_
    simp only [AL, TY, aq, aint, astr, aWant, isPtr, abnd, ahi, alo, aload, rd, newObj, alit, aparts, astore, amapset, cellsOf, ev, avOf, av1, putF, upd, argF, TK.agg, aapp, asrc, one, aq.abuild, Nat.reduceEqDiff, Nat.reduceAdd, Nat.reduceLT, Nat.reduceLeDiff, Nat.reduceMul, Nat.reduceSub, reduceIte, reduceCtorEq, Int.reduceLE, Int.reduceToNat, Int.reduceLT, Int.reduceEq, Int.reduceAdd, Int.reduceSub, Int.reduceMul, Int.reduceNeg]
    refine hK _ _ ?_; clear hK K
    have hH1 : (upd (upd H bl (some (.rows 5 [[.str [], .nsl, .nsl, .bool false, .nsl]]))) bl (some (.rows 5 [[.str g.name, .isl 1 (g.params.map strRow), .isl 1 (g.locs.map strRow), .bool g.word, .isl 5 (g.body.map Sm.row)]]))) bl = some (.rows 5 [[.str g.name, .isl 1 (g.params.map strRow), .isl 1 (g.locs.map strRow), .bool g.word, .isl 5 (g.body.map Sm.row)]]) := upd_same _ _ _
    have hb6' : (upd (upd H bl (some (.rows 5 [[.str [], .nsl, .nsl, .bool false, .nsl]]))) bl (some (.rows 5 [[.str g.name, .isl 1 (g.params.map strRow), .isl 1 (g.locs.map strRow), .bool g.word, .isl 5 (g.body.map Sm.row)]]))) b6 = some (.rows 1 [[.bool B]]) := by
      have : b6 ≠ bl := fun e => by rw [e, hbl] at hb6; cases hb6
      simp only [upd, if_neg this]; exact hb6
    generalize (upd (upd H bl (some (.rows 5 [[.str [], .nsl, .nsl, .bool false, .nsl]]))) bl (some (.rows 5 [[.str g.name, .isl 1 (g.params.map strRow), .isl 1 (g.locs.map strRow), .bool g.word, .isl 5 (g.body.map Sm.row)]]))) = H1 at hH1 hb6' ⊢
    simp only at hL
    have hres : checkI p = if (B && (decide (g.name = mainS) && decide (g.params.length = 0) && !g.word)) then 0 else 1 := by
      rw [hC, hA, hNm, hB hA, hL]; rfl
    rw [hres]
    cases hBc : B with
    | false =>
      rw [hBc] at hb6'
      repeat' (first | (refine awp_seq_k fun K hK => ?_; refine awp_region rfl ?_; simp only [f6, hb6', AL, TY, aq, aint, astr, aWant, isPtr, abnd, ahi, alo, aload, rd, newObj, alit, aparts, astore, amapset, cellsOf, ev, avOf, av1, putF, upd, argF, TK.agg, aapp, asrc, one, aq.abuild, Nat.reduceEqDiff, Nat.reduceAdd, Nat.reduceLT, Nat.reduceLeDiff, Nat.reduceMul, Nat.reduceSub, reduceIte, reduceCtorEq, Int.reduceLE, Int.reduceToNat, Int.reduceLT, Int.reduceEq, Int.reduceAdd, Int.reduceSub, Int.reduceMul, Int.reduceNeg]; refine hK _ _ ?_; clear hK K) | (refine awp_seq ?_) | (refine awp_block ?_) | (refine awp_if true rfl (fun _ => ?_) (fun hc => by cases hc)) | (refine awp_if false rfl (fun hc => by cases hc) (fun _ => ?_)) | (refine awp_skip ?_; simp only [thenQ, blockQ]) | (refine awp_exit ?_; simp only [thenQ, blockQ, reduceIte, Nat.reduceEqDiff]) | (refine awp_region rfl ?_; simp only [f6, hb6', thenQ, blockQ, AL, TY, aq, aint, astr, aWant, isPtr, abnd, ahi, alo, aload, rd, newObj, alit, aparts, astore, amapset, cellsOf, ev, avOf, av1, putF, upd, argF, TK.agg, aapp, asrc, one, aq.abuild, Nat.reduceEqDiff, Nat.reduceAdd, Nat.reduceLT, Nat.reduceLeDiff, Nat.reduceMul, Nat.reduceSub, reduceIte, reduceCtorEq, Int.reduceLE, Int.reduceToNat, Int.reduceLT, Int.reduceEq, Int.reduceAdd, Int.reduceSub, Int.reduceMul, Int.reduceNeg]) | (refine awpG_splitN (fun h => ?_) (fun h => ?_) <;> simp only [h, f6, hb6', thenQ, blockQ, AL, TY, aq, aint, astr, aWant, isPtr, abnd, ahi, alo, aload, rd, newObj, alit, aparts, astore, amapset, cellsOf, ev, avOf, av1, putF, upd, argF, TK.agg, aapp, asrc, one, aq.abuild, Nat.reduceEqDiff, Nat.reduceAdd, Nat.reduceLT, Nat.reduceLeDiff, Nat.reduceMul, Nat.reduceSub, reduceIte, reduceCtorEq, Int.reduceLE, Int.reduceToNat, Int.reduceLT, Int.reduceEq, Int.reduceAdd, Int.reduceSub, Int.reduceMul, Int.reduceNeg]) | (refine awpG_split (fun h => ?_) (fun h => ?_) <;> simp only [h, f6, hb6', thenQ, blockQ, AL, TY, aq, aint, astr, aWant, isPtr, abnd, ahi, alo, aload, rd, newObj, alit, aparts, astore, amapset, cellsOf, ev, avOf, av1, putF, upd, argF, TK.agg, aapp, asrc, one, aq.abuild, Nat.reduceEqDiff, Nat.reduceAdd, Nat.reduceLT, Nat.reduceLeDiff, Nat.reduceMul, Nat.reduceSub, reduceIte, reduceCtorEq, Int.reduceLE, Int.reduceToNat, Int.reduceLT, Int.reduceEq, Int.reduceAdd, Int.reduceSub, Int.reduceMul, Int.reduceNeg]) | (refine awp_if _ rfl (fun h => ?_) (fun h => ?_)) | (refine awp_ret ?_; simp only [thenQ, blockQ, bodyQ, aresult, ares, argF, f6, hb6', AL, TY, aq, aint, astr, aWant, isPtr, abnd, ahi, alo, aload, rd, newObj, alit, aparts, astore, amapset, cellsOf, ev, avOf, av1, putF, upd, argF, TK.agg, aapp, asrc, one, aq.abuild, Nat.reduceEqDiff, Nat.reduceAdd, Nat.reduceLT, Nat.reduceLeDiff, Nat.reduceMul, Nat.reduceSub, reduceIte, reduceCtorEq, Int.reduceLE, Int.reduceToNat, Int.reduceLT, Int.reduceEq, Int.reduceAdd, Int.reduceSub, Int.reduceMul, Int.reduceNeg]; refine Gives.pure ?_))
      rfl
    | true =>
      rw [hBc] at hb6'
      cases e1 : decide (g.name = mainS) with
      | false =>
        have e1' : decide (g.name = [109, 97, 105, 110]) = false := e1
        repeat' (first | (refine awp_seq_k fun K hK => ?_; refine awp_region rfl ?_; simp only [f6, hb6', hH1, e1', d1, List.length_map, AL, TY, aq, aint, astr, aWant, isPtr, abnd, ahi, alo, aload, rd, newObj, alit, aparts, astore, amapset, cellsOf, ev, avOf, av1, putF, upd, argF, TK.agg, aapp, asrc, one, aq.abuild, Nat.reduceEqDiff, Nat.reduceAdd, Nat.reduceLT, Nat.reduceLeDiff, Nat.reduceMul, Nat.reduceSub, reduceIte, reduceCtorEq, Int.reduceLE, Int.reduceToNat, Int.reduceLT, Int.reduceEq, Int.reduceAdd, Int.reduceSub, Int.reduceMul, Int.reduceNeg]; refine hK _ _ ?_; clear hK K) | (refine awp_seq ?_) | (refine awp_block ?_) | (refine awp_if true rfl (fun _ => ?_) (fun hc => by cases hc)) | (refine awp_if false rfl (fun hc => by cases hc) (fun _ => ?_)) | (refine awp_skip ?_; simp only [thenQ, blockQ]) | (refine awp_exit ?_; simp only [thenQ, blockQ, reduceIte, Nat.reduceEqDiff]) | (refine awp_region rfl ?_; simp only [f6, hb6', hH1, e1', d1, List.length_map, thenQ, blockQ, AL, TY, aq, aint, astr, aWant, isPtr, abnd, ahi, alo, aload, rd, newObj, alit, aparts, astore, amapset, cellsOf, ev, avOf, av1, putF, upd, argF, TK.agg, aapp, asrc, one, aq.abuild, Nat.reduceEqDiff, Nat.reduceAdd, Nat.reduceLT, Nat.reduceLeDiff, Nat.reduceMul, Nat.reduceSub, reduceIte, reduceCtorEq, Int.reduceLE, Int.reduceToNat, Int.reduceLT, Int.reduceEq, Int.reduceAdd, Int.reduceSub, Int.reduceMul, Int.reduceNeg]) | (refine awpG_splitN (fun h => ?_) (fun h => ?_) <;> simp only [h, f6, hb6', hH1, e1', d1, List.length_map, thenQ, blockQ, AL, TY, aq, aint, astr, aWant, isPtr, abnd, ahi, alo, aload, rd, newObj, alit, aparts, astore, amapset, cellsOf, ev, avOf, av1, putF, upd, argF, TK.agg, aapp, asrc, one, aq.abuild, Nat.reduceEqDiff, Nat.reduceAdd, Nat.reduceLT, Nat.reduceLeDiff, Nat.reduceMul, Nat.reduceSub, reduceIte, reduceCtorEq, Int.reduceLE, Int.reduceToNat, Int.reduceLT, Int.reduceEq, Int.reduceAdd, Int.reduceSub, Int.reduceMul, Int.reduceNeg]) | (refine awpG_split (fun h => ?_) (fun h => ?_) <;> simp only [h, f6, hb6', hH1, e1', d1, List.length_map, thenQ, blockQ, AL, TY, aq, aint, astr, aWant, isPtr, abnd, ahi, alo, aload, rd, newObj, alit, aparts, astore, amapset, cellsOf, ev, avOf, av1, putF, upd, argF, TK.agg, aapp, asrc, one, aq.abuild, Nat.reduceEqDiff, Nat.reduceAdd, Nat.reduceLT, Nat.reduceLeDiff, Nat.reduceMul, Nat.reduceSub, reduceIte, reduceCtorEq, Int.reduceLE, Int.reduceToNat, Int.reduceLT, Int.reduceEq, Int.reduceAdd, Int.reduceSub, Int.reduceMul, Int.reduceNeg]) | (refine awp_if _ rfl (fun h => ?_) (fun h => ?_)) | (refine awp_ret ?_; simp only [thenQ, blockQ, bodyQ, aresult, ares, argF, f6, hb6', hH1, e1', d1, List.length_map, AL, TY, aq, aint, astr, aWant, isPtr, abnd, ahi, alo, aload, rd, newObj, alit, aparts, astore, amapset, cellsOf, ev, avOf, av1, putF, upd, argF, TK.agg, aapp, asrc, one, aq.abuild, Nat.reduceEqDiff, Nat.reduceAdd, Nat.reduceLT, Nat.reduceLeDiff, Nat.reduceMul, Nat.reduceSub, reduceIte, reduceCtorEq, Int.reduceLE, Int.reduceToNat, Int.reduceLT, Int.reduceEq, Int.reduceAdd, Int.reduceSub, Int.reduceMul, Int.reduceNeg]; refine Gives.pure ?_))
        rfl
      | true =>
        have e1' : decide (g.name = [109, 97, 105, 110]) = true := e1
        cases e2 : decide (g.params.length = 0) with
        | false =>
          rw [e2] at d1
          repeat' (first | (refine awp_seq_k fun K hK => ?_; refine awp_region rfl ?_; simp only [f6, hb6', hH1, e1', d1, List.length_map, AL, TY, aq, aint, astr, aWant, isPtr, abnd, ahi, alo, aload, rd, newObj, alit, aparts, astore, amapset, cellsOf, ev, avOf, av1, putF, upd, argF, TK.agg, aapp, asrc, one, aq.abuild, Nat.reduceEqDiff, Nat.reduceAdd, Nat.reduceLT, Nat.reduceLeDiff, Nat.reduceMul, Nat.reduceSub, reduceIte, reduceCtorEq, Int.reduceLE, Int.reduceToNat, Int.reduceLT, Int.reduceEq, Int.reduceAdd, Int.reduceSub, Int.reduceMul, Int.reduceNeg]; refine hK _ _ ?_; clear hK K) | (refine awp_seq ?_) | (refine awp_block ?_) | (refine awp_if true rfl (fun _ => ?_) (fun hc => by cases hc)) | (refine awp_if false rfl (fun hc => by cases hc) (fun _ => ?_)) | (refine awp_skip ?_; simp only [thenQ, blockQ]) | (refine awp_exit ?_; simp only [thenQ, blockQ, reduceIte, Nat.reduceEqDiff]) | (refine awp_region rfl ?_; simp only [f6, hb6', hH1, e1', d1, List.length_map, thenQ, blockQ, AL, TY, aq, aint, astr, aWant, isPtr, abnd, ahi, alo, aload, rd, newObj, alit, aparts, astore, amapset, cellsOf, ev, avOf, av1, putF, upd, argF, TK.agg, aapp, asrc, one, aq.abuild, Nat.reduceEqDiff, Nat.reduceAdd, Nat.reduceLT, Nat.reduceLeDiff, Nat.reduceMul, Nat.reduceSub, reduceIte, reduceCtorEq, Int.reduceLE, Int.reduceToNat, Int.reduceLT, Int.reduceEq, Int.reduceAdd, Int.reduceSub, Int.reduceMul, Int.reduceNeg]) | (refine awpG_splitN (fun h => ?_) (fun h => ?_) <;> simp only [h, f6, hb6', hH1, e1', d1, List.length_map, thenQ, blockQ, AL, TY, aq, aint, astr, aWant, isPtr, abnd, ahi, alo, aload, rd, newObj, alit, aparts, astore, amapset, cellsOf, ev, avOf, av1, putF, upd, argF, TK.agg, aapp, asrc, one, aq.abuild, Nat.reduceEqDiff, Nat.reduceAdd, Nat.reduceLT, Nat.reduceLeDiff, Nat.reduceMul, Nat.reduceSub, reduceIte, reduceCtorEq, Int.reduceLE, Int.reduceToNat, Int.reduceLT, Int.reduceEq, Int.reduceAdd, Int.reduceSub, Int.reduceMul, Int.reduceNeg]) | (refine awpG_split (fun h => ?_) (fun h => ?_) <;> simp only [h, f6, hb6', hH1, e1', d1, List.length_map, thenQ, blockQ, AL, TY, aq, aint, astr, aWant, isPtr, abnd, ahi, alo, aload, rd, newObj, alit, aparts, astore, amapset, cellsOf, ev, avOf, av1, putF, upd, argF, TK.agg, aapp, asrc, one, aq.abuild, Nat.reduceEqDiff, Nat.reduceAdd, Nat.reduceLT, Nat.reduceLeDiff, Nat.reduceMul, Nat.reduceSub, reduceIte, reduceCtorEq, Int.reduceLE, Int.reduceToNat, Int.reduceLT, Int.reduceEq, Int.reduceAdd, Int.reduceSub, Int.reduceMul, Int.reduceNeg]) | (refine awp_if _ rfl (fun h => ?_) (fun h => ?_)) | (refine awp_ret ?_; simp only [thenQ, blockQ, bodyQ, aresult, ares, argF, f6, hb6', hH1, e1', d1, List.length_map, AL, TY, aq, aint, astr, aWant, isPtr, abnd, ahi, alo, aload, rd, newObj, alit, aparts, astore, amapset, cellsOf, ev, avOf, av1, putF, upd, argF, TK.agg, aapp, asrc, one, aq.abuild, Nat.reduceEqDiff, Nat.reduceAdd, Nat.reduceLT, Nat.reduceLeDiff, Nat.reduceMul, Nat.reduceSub, reduceIte, reduceCtorEq, Int.reduceLE, Int.reduceToNat, Int.reduceLT, Int.reduceEq, Int.reduceAdd, Int.reduceSub, Int.reduceMul, Int.reduceNeg]; refine Gives.pure ?_))
          rfl
        | true =>
          rw [e2] at d1
          cases e3 : g.word with
          | false =>
            rw [e3] at hH1
            repeat' (first | (refine awp_seq_k fun K hK => ?_; refine awp_region rfl ?_; simp only [f6, hb6', hH1, e1', d1, List.length_map, AL, TY, aq, aint, astr, aWant, isPtr, abnd, ahi, alo, aload, rd, newObj, alit, aparts, astore, amapset, cellsOf, ev, avOf, av1, putF, upd, argF, TK.agg, aapp, asrc, one, aq.abuild, Nat.reduceEqDiff, Nat.reduceAdd, Nat.reduceLT, Nat.reduceLeDiff, Nat.reduceMul, Nat.reduceSub, reduceIte, reduceCtorEq, Int.reduceLE, Int.reduceToNat, Int.reduceLT, Int.reduceEq, Int.reduceAdd, Int.reduceSub, Int.reduceMul, Int.reduceNeg]; refine hK _ _ ?_; clear hK K) | (refine awp_seq ?_) | (refine awp_block ?_) | (refine awp_if true rfl (fun _ => ?_) (fun hc => by cases hc)) | (refine awp_if false rfl (fun hc => by cases hc) (fun _ => ?_)) | (refine awp_skip ?_; simp only [thenQ, blockQ]) | (refine awp_exit ?_; simp only [thenQ, blockQ, reduceIte, Nat.reduceEqDiff]) | (refine awp_region rfl ?_; simp only [f6, hb6', hH1, e1', d1, List.length_map, thenQ, blockQ, AL, TY, aq, aint, astr, aWant, isPtr, abnd, ahi, alo, aload, rd, newObj, alit, aparts, astore, amapset, cellsOf, ev, avOf, av1, putF, upd, argF, TK.agg, aapp, asrc, one, aq.abuild, Nat.reduceEqDiff, Nat.reduceAdd, Nat.reduceLT, Nat.reduceLeDiff, Nat.reduceMul, Nat.reduceSub, reduceIte, reduceCtorEq, Int.reduceLE, Int.reduceToNat, Int.reduceLT, Int.reduceEq, Int.reduceAdd, Int.reduceSub, Int.reduceMul, Int.reduceNeg]) | (refine awpG_splitN (fun h => ?_) (fun h => ?_) <;> simp only [h, f6, hb6', hH1, e1', d1, List.length_map, thenQ, blockQ, AL, TY, aq, aint, astr, aWant, isPtr, abnd, ahi, alo, aload, rd, newObj, alit, aparts, astore, amapset, cellsOf, ev, avOf, av1, putF, upd, argF, TK.agg, aapp, asrc, one, aq.abuild, Nat.reduceEqDiff, Nat.reduceAdd, Nat.reduceLT, Nat.reduceLeDiff, Nat.reduceMul, Nat.reduceSub, reduceIte, reduceCtorEq, Int.reduceLE, Int.reduceToNat, Int.reduceLT, Int.reduceEq, Int.reduceAdd, Int.reduceSub, Int.reduceMul, Int.reduceNeg]) | (refine awpG_split (fun h => ?_) (fun h => ?_) <;> simp only [h, f6, hb6', hH1, e1', d1, List.length_map, thenQ, blockQ, AL, TY, aq, aint, astr, aWant, isPtr, abnd, ahi, alo, aload, rd, newObj, alit, aparts, astore, amapset, cellsOf, ev, avOf, av1, putF, upd, argF, TK.agg, aapp, asrc, one, aq.abuild, Nat.reduceEqDiff, Nat.reduceAdd, Nat.reduceLT, Nat.reduceLeDiff, Nat.reduceMul, Nat.reduceSub, reduceIte, reduceCtorEq, Int.reduceLE, Int.reduceToNat, Int.reduceLT, Int.reduceEq, Int.reduceAdd, Int.reduceSub, Int.reduceMul, Int.reduceNeg]) | (refine awp_if _ rfl (fun h => ?_) (fun h => ?_)) | (refine awp_ret ?_; simp only [thenQ, blockQ, bodyQ, aresult, ares, argF, f6, hb6', hH1, e1', d1, List.length_map, AL, TY, aq, aint, astr, aWant, isPtr, abnd, ahi, alo, aload, rd, newObj, alit, aparts, astore, amapset, cellsOf, ev, avOf, av1, putF, upd, argF, TK.agg, aapp, asrc, one, aq.abuild, Nat.reduceEqDiff, Nat.reduceAdd, Nat.reduceLT, Nat.reduceLeDiff, Nat.reduceMul, Nat.reduceSub, reduceIte, reduceCtorEq, Int.reduceLE, Int.reduceToNat, Int.reduceLT, Int.reduceEq, Int.reduceAdd, Int.reduceSub, Int.reduceMul, Int.reduceNeg]; refine Gives.pure ?_))
            rfl
          | true =>
            rw [e3] at hH1
            repeat' (first | (refine awp_seq_k fun K hK => ?_; refine awp_region rfl ?_; simp only [f6, hb6', hH1, e1', d1, List.length_map, AL, TY, aq, aint, astr, aWant, isPtr, abnd, ahi, alo, aload, rd, newObj, alit, aparts, astore, amapset, cellsOf, ev, avOf, av1, putF, upd, argF, TK.agg, aapp, asrc, one, aq.abuild, Nat.reduceEqDiff, Nat.reduceAdd, Nat.reduceLT, Nat.reduceLeDiff, Nat.reduceMul, Nat.reduceSub, reduceIte, reduceCtorEq, Int.reduceLE, Int.reduceToNat, Int.reduceLT, Int.reduceEq, Int.reduceAdd, Int.reduceSub, Int.reduceMul, Int.reduceNeg]; refine hK _ _ ?_; clear hK K) | (refine awp_seq ?_) | (refine awp_block ?_) | (refine awp_if true rfl (fun _ => ?_) (fun hc => by cases hc)) | (refine awp_if false rfl (fun hc => by cases hc) (fun _ => ?_)) | (refine awp_skip ?_; simp only [thenQ, blockQ]) | (refine awp_exit ?_; simp only [thenQ, blockQ, reduceIte, Nat.reduceEqDiff]) | (refine awp_region rfl ?_; simp only [f6, hb6', hH1, e1', d1, List.length_map, thenQ, blockQ, AL, TY, aq, aint, astr, aWant, isPtr, abnd, ahi, alo, aload, rd, newObj, alit, aparts, astore, amapset, cellsOf, ev, avOf, av1, putF, upd, argF, TK.agg, aapp, asrc, one, aq.abuild, Nat.reduceEqDiff, Nat.reduceAdd, Nat.reduceLT, Nat.reduceLeDiff, Nat.reduceMul, Nat.reduceSub, reduceIte, reduceCtorEq, Int.reduceLE, Int.reduceToNat, Int.reduceLT, Int.reduceEq, Int.reduceAdd, Int.reduceSub, Int.reduceMul, Int.reduceNeg]) | (refine awpG_splitN (fun h => ?_) (fun h => ?_) <;> simp only [h, f6, hb6', hH1, e1', d1, List.length_map, thenQ, blockQ, AL, TY, aq, aint, astr, aWant, isPtr, abnd, ahi, alo, aload, rd, newObj, alit, aparts, astore, amapset, cellsOf, ev, avOf, av1, putF, upd, argF, TK.agg, aapp, asrc, one, aq.abuild, Nat.reduceEqDiff, Nat.reduceAdd, Nat.reduceLT, Nat.reduceLeDiff, Nat.reduceMul, Nat.reduceSub, reduceIte, reduceCtorEq, Int.reduceLE, Int.reduceToNat, Int.reduceLT, Int.reduceEq, Int.reduceAdd, Int.reduceSub, Int.reduceMul, Int.reduceNeg]) | (refine awpG_split (fun h => ?_) (fun h => ?_) <;> simp only [h, f6, hb6', hH1, e1', d1, List.length_map, thenQ, blockQ, AL, TY, aq, aint, astr, aWant, isPtr, abnd, ahi, alo, aload, rd, newObj, alit, aparts, astore, amapset, cellsOf, ev, avOf, av1, putF, upd, argF, TK.agg, aapp, asrc, one, aq.abuild, Nat.reduceEqDiff, Nat.reduceAdd, Nat.reduceLT, Nat.reduceLeDiff, Nat.reduceMul, Nat.reduceSub, reduceIte, reduceCtorEq, Int.reduceLE, Int.reduceToNat, Int.reduceLT, Int.reduceEq, Int.reduceAdd, Int.reduceSub, Int.reduceMul, Int.reduceNeg]) | (refine awp_if _ rfl (fun h => ?_) (fun h => ?_)) | (refine awp_ret ?_; simp only [thenQ, blockQ, bodyQ, aresult, ares, argF, f6, hb6', hH1, e1', d1, List.length_map, AL, TY, aq, aint, astr, aWant, isPtr, abnd, ahi, alo, aload, rd, newObj, alit, aparts, astore, amapset, cellsOf, ev, avOf, av1, putF, upd, argF, TK.agg, aapp, asrc, one, aq.abuild, Nat.reduceEqDiff, Nat.reduceAdd, Nat.reduceLT, Nat.reduceLeDiff, Nat.reduceMul, Nat.reduceSub, reduceIte, reduceCtorEq, Int.reduceLE, Int.reduceToNat, Int.reduceLT, Int.reduceEq, Int.reduceAdd, Int.reduceSub, Int.reduceMul, Int.reduceNeg]; refine Gives.pure ?_))
            rfl
end Go.Proofs.Ytnbokmbjiioooaa
