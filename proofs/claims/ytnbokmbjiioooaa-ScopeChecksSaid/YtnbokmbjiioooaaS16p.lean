/- Chapter 16, the program's: Calls. -/
import Derived.Test.YtnbokmbjiioooaaS16o
set_option linter.unusedSimpArgs false
set_option linter.unusedVariables false
namespace Go.Proofs.Ytnbokmbjiioooaa
open Go.Al
def allR (p : Pg) (k : Nat) : List (List AV) := (callsFrom p 0 (p.funs.take k)).map intsRow ++ List.replicate (p.funs.length - k) [AV.nsl]
section
variable (p : Pg) {k : Nat}
theorem allR_zero : allR p 0 = List.replicate p.funs.length [AV.nsl] := by simp [allR, callsFrom]
theorem allR_all : allR p p.funs.length = (callsP p).map intsRow := by simp [allR, callsP, List.take_length]
theorem allR_len (h : k ≤ p.funs.length) : (allR p k).length = p.funs.length := by
  simp only [allR, List.length_append, List.length_map, callsFrom_len, List.length_take, List.length_replicate]; omega
theorem allR_left (h : k ≤ p.funs.length) : ((callsFrom p 0 (p.funs.take k)).map intsRow).length = k := by
  simp only [List.length_map, callsFrom_len, List.length_take]; omega
theorem allR_split (h : k < p.funs.length) : allR p k = (callsFrom p 0 (p.funs.take k)).map intsRow ++ [AV.nsl] :: List.replicate (p.funs.length - (k + 1)) [AV.nsl] := by
  rw [allR, show p.funs.length - k = (p.funs.length - (k + 1)) + 1 by omega, List.replicate_succ]
theorem allR_set (h : k < p.funs.length) (x : List AV) : (allR p k).set k x = (callsFrom p 0 (p.funs.take k)).map intsRow ++ x :: List.replicate (p.funs.length - (k + 1)) [AV.nsl] := by
  rw [allR_split p h, List.set_append_right _ _ (by rw [allR_left p (by omega)]; exact Nat.le_refl _), allR_left p (by omega), Nat.sub_self, List.set_cons_zero]
theorem allR_self (h : k < p.funs.length) : (allR p k).set k [AV.nsl] = allR p k := by rw [allR_set p h, allR_split p h]
theorem allR_get (h : k < p.funs.length) (x : List AV) : ((allR p k).set k x)[k]? = some x := by
  rw [List.getElem?_set_self (by rw [allR_len p (by omega)]; exact h)]
theorem allR_next (h : k < p.funs.length) : (allR p k).set k (intsRow (callsRow p k p.funs[k])) = allR p (k + 1) := by
  rw [allR_set p h, allR, callsFrom_take p p.funs 0 k h, List.map_append, List.append_assoc, Nat.zero_add]; rfl
theorem allR_frz (h : k < p.funs.length) (b sz : Nat) (l : List (List AV)) (v : AV) : ((allR p k).set k [v]).map (fun x => x.map (frz b sz l)) = (allR p k).set k [frz b sz l v] := by
  rw [allR_set p h, allR_set p h, List.map_append, List.map_cons, List.map_map, List.map_replicate]
  congr 1
theorem allR_sub (h : k < p.funs.length) (i : Nat) (r r' : List AV) (hr : ((allR p k).set k [AV.nsl])[i]? = some r) (hr' : ((allR p k).set k (intsRow []))[i]? = some r') :
    r'.length = r.length ∧ ∀ (j : Nat) x x', r[j]? = some x → r'[j]? = some x' → Sub x x' := by
  by_cases e : i = k
  · subst e
    rw [allR_get p h] at hr hr'
    cases hr; cases hr'
    refine ⟨rfl, fun j x x' hx hx' => ?_⟩
    cases j with
    | zero =>
      simp only [List.getElem?_cons_zero, Option.some.injEq, intsRow] at hx hx'
      subst hx; subst hx'
      exact Sub.nsl 1
    | succ n => simp at hx
  · rw [List.getElem?_set_ne (fun h => e h.symm)] at hr hr'
    rw [hr] at hr'
    cases hr'
    exact ⟨rfl, fun j x x' hx hx' => by rw [hx] at hx'; cases hx'; exact Sub.refl _⟩
end
set_option maxHeartbeats 4000000 in
theorem Calls_con (p : Pg) (hp : p.few) : PCon env 14 [p.av] (.isl 1 ((callsP p).map intsRow)) := by
  have hglob := globals_con p hp
  have hff : p.funs.length ≤ 10000 := hp.f
  have hok := hp.ok
  refine con_of 67 [.tmp 2] Try.func14 rfl rfl rfl rfl ?_
  simp only [Pg.av] at hglob ⊢
  refine awp_cutK (fun fr H => ∃ b1, fr 1 = .ptr 3 b1 0 0 ∧ H b1 = some (.rows 3 [p.row])) (fun K hK => ?_) ?_
  · refine awp_region rfl ?_; simp only [AL, TY, aq, aint, astr, aWant, isPtr, abnd, ahi, alo, aload, rd, newObj, alit, aparts, astore, amapset, cellsOf, ev, avOf, av1, putF, upd, argF, TK.agg, aapp, asrc, one, aq.abuild, Nat.reduceEqDiff, Nat.reduceAdd, Nat.reduceLT, Nat.reduceLeDiff, Nat.reduceMul, Nat.reduceSub, reduceIte, reduceCtorEq, Int.reduceLE, Int.reduceToNat, Int.reduceLT, Int.reduceEq, Int.reduceAdd, Int.reduceSub, Int.reduceMul, Int.reduceNeg]
    simp only [Pg.row]
    refine awpN_intro fun b1 hb1 => ?_
    simp only [AL, TY, aq, aint, astr, aWant, isPtr, abnd, ahi, alo, aload, rd, newObj, alit, aparts, astore, amapset, cellsOf, ev, avOf, av1, putF, upd, argF, TK.agg, aapp, asrc, one, aq.abuild, Nat.reduceEqDiff, Nat.reduceAdd, Nat.reduceLT, Nat.reduceLeDiff, Nat.reduceMul, Nat.reduceSub, reduceIte, reduceCtorEq, Int.reduceLE, Int.reduceToNat, Int.reduceLT, Int.reduceEq, Int.reduceAdd, Int.reduceSub, Int.reduceMul, Int.reduceNeg]
    exact hK _ _ ⟨b1, rfl, upd_same _ _ _⟩
  rintro fr H ⟨b1, f1, hb1⟩
  refine awp_cutK (fun fr H => ∃ bo, fr 1 = .ptr 3 b1 0 0 ∧ fr 3 = .mp bo ∧ H b1 = some (.rows 3 [p.row]) ∧ H bo = some (.amap ((stT (globT p)).1.map ent))) (fun K hK => ?_) ?_
  · refine awp_region rfl ?_
    have hb1' := hb1
    simp only [Pg.row] at hb1' hglob
    simp only [f1, hb1', AL, TY, aq, aint, astr, aWant, isPtr, abnd, ahi, alo, aload, rd, newObj, alit, aparts, astore, amapset, cellsOf, ev, avOf, av1, putF, upd, argF, TK.agg, aapp, asrc, one, aq.abuild, Nat.reduceEqDiff, Nat.reduceAdd, Nat.reduceLT, Nat.reduceLeDiff, Nat.reduceMul, Nat.reduceSub, reduceIte, reduceCtorEq, Int.reduceLE, Int.reduceToNat, Int.reduceLT, Int.reduceEq, Int.reduceAdd, Int.reduceSub, Int.reduceMul, Int.reduceNeg]
    refine awpC_makes hglob (SubL.refl _) fun v H' H2 ⟨bo, hv, hbo⟩ hk hn => ?_
    subst hv
    simp only [AL, TY, aq, aint, astr, aWant, isPtr, abnd, ahi, alo, aload, rd, newObj, alit, aparts, astore, amapset, cellsOf, ev, avOf, av1, putF, upd, argF, TK.agg, aapp, asrc, one, aq.abuild, Nat.reduceEqDiff, Nat.reduceAdd, Nat.reduceLT, Nat.reduceLeDiff, Nat.reduceMul, Nat.reduceSub, reduceIte, reduceCtorEq, Int.reduceLE, Int.reduceToNat, Int.reduceLT, Int.reduceEq, Int.reduceAdd, Int.reduceSub, Int.reduceMul, Int.reduceNeg]
    exact hK _ _ ⟨bo, f1, rfl, hk _ _ (fun h => h) hb1, (hn _ _ hbo).1⟩
  rintro fr H ⟨bo, f1, f3, hb1, hbo⟩
  have m1 : (0 : Int) ≤ (p.funs.length : Int) := by omega
  have m2 : (1 : Int) * (p.funs.length : Int) ≤ 281474976710656 := by omega
  have m4 : (24 : Int) * (p.funs.length : Int) ≤ 281474976710656 := by omega
  have m3 : (p.funs.length : Int) ≤ 281474976710656 := by omega
  refine awp_cutK (fun fr H => ∃ ba, fr 1 = .ptr 3 b1 0 0 ∧ fr 3 = .mp bo ∧ fr 5 = .osl 1 ba p.funs.length ∧ H b1 = some (.rows 3 [p.row]) ∧ H bo = some (.amap ((stT (globT p)).1.map ent)) ∧ H ba = some (.rows 1 (allR p 0))) (fun K hK => ?_) ?_
  · refine awp_region rfl ?_
    have hb1' := hb1
    simp only [Pg.row] at hb1'
    simp only [f1, hb1', List.length_map, Al.newObj, m1, m2, m3, m4, Int.one_mul, Int.natCast_one, Int.cast_ofNat_Int, AL, TY, aq, aint, astr, aWant, isPtr, abnd, ahi, alo, aload, rd, newObj, alit, aparts, astore, amapset, cellsOf, ev, avOf, av1, putF, upd, argF, TK.agg, aapp, asrc, one, aq.abuild, Nat.reduceEqDiff, Nat.reduceAdd, Nat.reduceLT, Nat.reduceLeDiff, Nat.reduceMul, Nat.reduceSub, reduceIte, reduceCtorEq, Int.reduceLE, Int.reduceToNat, Int.reduceLT, Int.reduceEq, Int.reduceAdd, Int.reduceSub, Int.reduceMul, Int.reduceNeg]
    refine awpN_intro fun ba hba => ?_
    simp only [AL, TY, aq, aint, astr, aWant, isPtr, abnd, ahi, alo, aload, rd, newObj, alit, aparts, astore, amapset, cellsOf, ev, avOf, av1, putF, upd, argF, TK.agg, aapp, asrc, one, aq.abuild, Nat.reduceEqDiff, Nat.reduceAdd, Nat.reduceLT, Nat.reduceLeDiff, Nat.reduceMul, Nat.reduceSub, reduceIte, reduceCtorEq, Int.reduceLE, Int.reduceToNat, Int.reduceLT, Int.reduceEq, Int.reduceAdd, Int.reduceSub, Int.reduceMul, Int.reduceNeg]
    have q1 : b1 ≠ ba := fun e => by rw [e, hba] at hb1; cases hb1
    have q2 : bo ≠ ba := fun e => by rw [e, hba] at hbo; cases hbo
    refine hK _ _ ⟨ba, f1, f3, rfl, ?_, ?_, ?_⟩
    · simp only [upd, if_neg q1]; exact hb1
    · simp only [upd, if_neg q2]; exact hbo
    · rw [upd_same, allR_zero]
  rintro fr H ⟨ba, f1, f3, f5, hb1, hbo, hba⟩
  refine awp_cutK (fun fr H => fr 5 = .osl 1 ba p.funs.length ∧ H ba = some (.rows 1 ((callsP p).map intsRow))) (fun K hK => ?_) ?_
  · have hb1' := hb1
    simp only [Pg.row] at hb1'
    refine awp_seq_k fun K hK => ?_; refine awp_region rfl ?_; simp only [AL, TY, aq, aint, astr, aWant, isPtr, abnd, ahi, alo, aload, rd, newObj, alit, aparts, astore, amapset, cellsOf, ev, avOf, av1, putF, upd, argF, TK.agg, aapp, asrc, one, aq.abuild, Nat.reduceEqDiff, Nat.reduceAdd, Nat.reduceLT, Nat.reduceLeDiff, Nat.reduceMul, Nat.reduceSub, reduceIte, reduceCtorEq, Int.reduceLE, Int.reduceToNat, Int.reduceLT, Int.reduceEq, Int.reduceAdd, Int.reduceSub, Int.reduceMul, Int.reduceNeg]
    simp only [f1, hb1', List.length_map, AL, TY, aq, aint, astr, aWant, isPtr, abnd, ahi, alo, aload, rd, newObj, alit, aparts, astore, amapset, cellsOf, ev, avOf, av1, putF, upd, argF, TK.agg, aapp, asrc, one, aq.abuild, Nat.reduceEqDiff, Nat.reduceAdd, Nat.reduceLT, Nat.reduceLeDiff, Nat.reduceMul, Nat.reduceSub, reduceIte, reduceCtorEq, Int.reduceLE, Int.reduceToNat, Int.reduceLT, Int.reduceEq, Int.reduceAdd, Int.reduceSub, Int.reduceMul, Int.reduceNeg]
    refine hK _ _ ?_; clear hK K
    refine awp_block ?_
    refine awp_loopK (fun mm fr H => ∃ k : Nat, mm = p.funs.length - k ∧ k ≤ p.funs.length ∧ fr 26 = .int .i64 k ∧ fr 24 = .isl 5 (p.funs.map Fu.row) ∧ fr 25 = .int .i64 p.funs.length ∧ fr 1 = .ptr 3 b1 0 0 ∧ fr 3 = .mp bo ∧ fr 5 = .osl 1 ba p.funs.length ∧ H b1 = some (.rows 3 [p.row]) ∧ H bo = some (.amap ((stT (globT p)).1.map ent)) ∧ H ba = some (.rows 1 (allR p k))) (p.funs.length) ⟨0, rfl, Nat.zero_le _, rfl, rfl, rfl, f1, f3, f5, hb1, hbo, hba⟩ ?_
    rintro mm fr H ⟨k, rfl, hkk, hik, fS, fL, f1, f3, f5, hb1, hbo, hba⟩ K2 hK2
    refine awp_seq_k fun K hK => ?_; refine awp_region rfl ?_; simp only [AL, TY, aq, aint, astr, aWant, isPtr, abnd, ahi, alo, aload, rd, newObj, alit, aparts, astore, amapset, cellsOf, ev, avOf, av1, putF, upd, argF, TK.agg, aapp, asrc, one, aq.abuild, Nat.reduceEqDiff, Nat.reduceAdd, Nat.reduceLT, Nat.reduceLeDiff, Nat.reduceMul, Nat.reduceSub, reduceIte, reduceCtorEq, Int.reduceLE, Int.reduceToNat, Int.reduceLT, Int.reduceEq, Int.reduceAdd, Int.reduceSub, Int.reduceMul, Int.reduceNeg]
    simp only [hik, fL,List.length_map, AL, TY, aq, aint, astr, aWant, isPtr, abnd, ahi, alo, aload, rd, newObj, alit, aparts, astore, amapset, cellsOf, ev, avOf, av1, putF, upd, argF, TK.agg, aapp, asrc, one, aq.abuild, Nat.reduceEqDiff, Nat.reduceAdd, Nat.reduceLT, Nat.reduceLeDiff, Nat.reduceMul, Nat.reduceSub, reduceIte, reduceCtorEq, Int.reduceLE, Int.reduceToNat, Int.reduceLT, Int.reduceEq, Int.reduceAdd, Int.reduceSub, Int.reduceMul, Int.reduceNeg]
    refine hK _ _ ?_; clear hK K
    refine awp_seq ?_
    refine awp_if _ rfl (fun hc => ?_) (fun hc => ?_)
    · have hltk : k < p.funs.length := by have := of_decide_eq_true hc; omega
      clear hc
      refine awp_skip ?_; simp only [thenQ, blockQ]
      refine awp_seq ?_
      refine awp_block ?_
      have hg0 := List.getElem?_eq_getElem hltk
      have hg := getF hg0
      have hfs := hp.fs _ (List.getElem_mem hltk)
      have hokf := hok.funs _ (List.getElem_mem hltk)
      have hFind := find_eq16 p k _ hg0
      have hnx := allR_next p hltk
      have hrow : callsRow p k p.funs[k] = ((List.range p.funs.length).filter fun n => (usesS p.funs[k].body).any (isCall p k n)).map fun (n : Nat) => (n : Int) := rfl
      generalize p.funs[k] = f at hg hfs hokf hFind hnx hrow
      have hloc := locals_con f (by omega) (by omega)
      refine awp_cutK (fun fr H => ∃ b8, fr 24 = .isl 5 (p.funs.map Fu.row) ∧ fr 25 = .int .i64 p.funs.length ∧ fr 26 = .int .i64 k ∧ fr 1 = .ptr 3 b1 0 0 ∧ fr 3 = .mp bo ∧ fr 5 = .osl 1 ba p.funs.length ∧ fr 6 = .int .i64 k ∧ fr 7 = .ptr 5 b8 0 0 ∧ H b1 = some (.rows 3 [p.row]) ∧ H bo = some (.amap ((stT (globT p)).1.map ent)) ∧ H ba = some (.rows 1 (allR p k)) ∧ H b8 = some (.rows 5 [f.row])) (fun K hK => ?_) ?_
      · refine awp_region rfl ?_
        simp only [fS, hik, hg, AL, TY, aq, aint, astr, aWant, isPtr, abnd, ahi, alo, aload, rd, newObj, alit, aparts, astore, amapset, cellsOf, ev, avOf, av1, putF, upd, argF, TK.agg, aapp, asrc, one, aq.abuild, Nat.reduceEqDiff, Nat.reduceAdd, Nat.reduceLT, Nat.reduceLeDiff, Nat.reduceMul, Nat.reduceSub, reduceIte, reduceCtorEq, Int.reduceLE, Int.reduceToNat, Int.reduceLT, Int.reduceEq, Int.reduceAdd, Int.reduceSub, Int.reduceMul, Int.reduceNeg]
        refine awpN_intro fun b8 hb8 => ?_
        have old : ∀ (x : Nat) (o : AObj), H x = some o → x ≠ b8 := fun x o hx e => by rw [e, hb8] at hx; cases hx
        simp only [AL, TY, aq, aint, astr, aWant, isPtr, abnd, ahi, alo, aload, rd, newObj, alit, aparts, astore, amapset, cellsOf, ev, avOf, av1, putF, upd, argF, TK.agg, aapp, asrc, one, aq.abuild, Nat.reduceEqDiff, Nat.reduceAdd, Nat.reduceLT, Nat.reduceLeDiff, Nat.reduceMul, Nat.reduceSub, reduceIte, reduceCtorEq, Int.reduceLE, Int.reduceToNat, Int.reduceLT, Int.reduceEq, Int.reduceAdd, Int.reduceSub, Int.reduceMul, Int.reduceNeg]
        refine hK _ _ ⟨b8, fS, fL, hik, f1, f3, f5, rfl, rfl, ?_, ?_, ?_, ?_⟩
        · have e2 := old _ _ hb1; simp only [upd, if_neg e2]; exact hb1
        · have e2 := old _ _ hbo; simp only [upd, if_neg e2]; exact hbo
        · have e2 := old _ _ hba; simp only [upd, if_neg e2]; exact hba
        · simp [upd, Fu.row]
      rintro fr H ⟨b8, fS, fL, hik, f1, f3, f5, f6, f7, hb1, hbo, hba, hb8⟩
      refine awp_cutK (fun fr H => ∃ bi, fr 24 = .isl 5 (p.funs.map Fu.row) ∧ fr 25 = .int .i64 p.funs.length ∧ fr 26 = .int .i64 k ∧ fr 1 = .ptr 3 b1 0 0 ∧ fr 3 = .mp bo ∧ fr 5 = .osl 1 ba p.funs.length ∧ fr 6 = .int .i64 k ∧ fr 7 = .ptr 5 b8 0 0 ∧ fr 8 = .mp bi ∧ H b1 = some (.rows 3 [p.row]) ∧ H bo = some (.amap ((stT (globT p)).1.map ent)) ∧ H ba = some (.rows 1 (allR p k)) ∧ H b8 = some (.rows 5 [f.row]) ∧ H bi = some (.amap ((stT (locT f)).1.map ent))) (fun K hK => ?_) ?_
      · refine awp_region rfl ?_
        have hb8' := hb8
        simp only [Fu.row] at hb8' hloc
        simp only [f7, hb8', AL, TY, aq, aint, astr, aWant, isPtr, abnd, ahi, alo, aload, rd, newObj, alit, aparts, astore, amapset, cellsOf, ev, avOf, av1, putF, upd, argF, TK.agg, aapp, asrc, one, aq.abuild, Nat.reduceEqDiff, Nat.reduceAdd, Nat.reduceLT, Nat.reduceLeDiff, Nat.reduceMul, Nat.reduceSub, reduceIte, reduceCtorEq, Int.reduceLE, Int.reduceToNat, Int.reduceLT, Int.reduceEq, Int.reduceAdd, Int.reduceSub, Int.reduceMul, Int.reduceNeg]
        refine awpC_makes hloc (SubL.refl _) fun v H' H2 ⟨bi, hv, hbi⟩ hk hn => ?_
        subst hv
        simp only [AL, TY, aq, aint, astr, aWant, isPtr, abnd, ahi, alo, aload, rd, newObj, alit, aparts, astore, amapset, cellsOf, ev, avOf, av1, putF, upd, argF, TK.agg, aapp, asrc, one, aq.abuild, Nat.reduceEqDiff, Nat.reduceAdd, Nat.reduceLT, Nat.reduceLeDiff, Nat.reduceMul, Nat.reduceSub, reduceIte, reduceCtorEq, Int.reduceLE, Int.reduceToNat, Int.reduceLT, Int.reduceEq, Int.reduceAdd, Int.reduceSub, Int.reduceMul, Int.reduceNeg]
        exact hK _ _ ⟨bi, fS, fL, hik, f1, f3, f5, f6, f7, rfl, hk _ _ (fun h => h) hb1, hk _ _ (fun h => h) hbo, hk _ _ (fun h => h) hba, hk _ _ (fun h => h) hb8, (hn _ _ hbi).1⟩
      rintro fr H ⟨bi, fS, fL, hik, f1, f3, f5, f6, f7, f8, hb1, hbo, hba, hb8, hbi⟩
      refine awp_cutK (fun fr H => ∃ bn, fr 24 = .isl 5 (p.funs.map Fu.row) ∧ fr 25 = .int .i64 p.funs.length ∧ fr 26 = .int .i64 k ∧ fr 1 = .ptr 3 b1 0 0 ∧ fr 3 = .mp bo ∧ fr 5 = .osl 1 ba p.funs.length ∧ fr 6 = .int .i64 k ∧ fr 7 = .ptr 5 b8 0 0 ∧ fr 10 = .ptr 2 bn 0 0 ∧ H b1 = some (.rows 3 [p.row]) ∧ H bo = some (.amap ((stT (globT p)).1.map ent)) ∧ H ba = some (.rows 1 (allR p k)) ∧ H b8 = some (.rows 5 [f.row]) ∧ H bi = some (.amap ((stT (locT f)).1.map ent)) ∧ H bn = some (.rows 2 [[.mp bo, .mp bi]])) (fun K hK => ?_) ?_
      · refine awp_region rfl ?_
        simp only [f3, f8, AL, TY, aq, aint, astr, aWant, isPtr, abnd, ahi, alo, aload, rd, newObj, alit, aparts, astore, amapset, cellsOf, ev, avOf, av1, putF, upd, argF, TK.agg, aapp, asrc, one, aq.abuild, Nat.reduceEqDiff, Nat.reduceAdd, Nat.reduceLT, Nat.reduceLeDiff, Nat.reduceMul, Nat.reduceSub, reduceIte, reduceCtorEq, Int.reduceLE, Int.reduceToNat, Int.reduceLT, Int.reduceEq, Int.reduceAdd, Int.reduceSub, Int.reduceMul, Int.reduceNeg]
        refine awpN_intro fun bn hbn => ?_
        simp only [AL, TY, aq, aint, astr, aWant, isPtr, abnd, ahi, alo, aload, rd, newObj, alit, aparts, astore, amapset, cellsOf, ev, avOf, av1, putF, upd, argF, TK.agg, aapp, asrc, one, aq.abuild, Nat.reduceEqDiff, Nat.reduceAdd, Nat.reduceLT, Nat.reduceLeDiff, Nat.reduceMul, Nat.reduceSub, reduceIte, reduceCtorEq, Int.reduceLE, Int.reduceToNat, Int.reduceLT, Int.reduceEq, Int.reduceAdd, Int.reduceSub, Int.reduceMul, Int.reduceNeg]
        have hkn : keeps (fun _ => False) H (upd (upd H bn (some (.rows 2 [[.nmp, .nmp]]))) bn (some (.rows 2 [[.mp bo, .mp bi]]))) := ((keeps.refl _ H).new hbn _).new hbn _
        have kp : ∀ (x : Nat) (o : AObj), H x = some o → _ = some o := fun x o h => hkn x o (fun h => h) h
        exact hK _ _ ⟨bn, fS, fL, hik, f1, f3, f5, f6, f7, rfl, kp _ _ hb1, kp _ _ hbo, kp _ _ hba, kp _ _ hb8, kp _ _ hbi, upd_same _ _ _⟩
      rintro fr H ⟨bn, fS, fL, hik, f1, f3, f5, f6, f7, f10, hb1, hbo, hba, hb8, hbi, hbn⟩
      refine awp_cutK (fun fr H => ∃ bt bc, bc ≠ bt ∧ ba ≠ bt ∧ fr 24 = .isl 5 (p.funs.map Fu.row) ∧ fr 25 = .int .i64 p.funs.length ∧ fr 26 = .int .i64 k ∧ fr 1 = .ptr 3 b1 0 0 ∧ fr 3 = .mp bo ∧ fr 5 = .osl 1 ba p.funs.length ∧ fr 6 = .int .i64 k ∧ fr 7 = .ptr 5 b8 0 0 ∧ fr 10 = .ptr 2 bn 0 0 ∧ fr 11 = .ptr 1 bc 0 0 ∧ H b1 = some (.rows 3 [p.row]) ∧ H ba = some (.rows 1 (allR p k)) ∧ H b8 = some (.rows 5 [f.row]) ∧ b1 ≠ bt ∧ b8 ≠ bt ∧ cllD p k bn bc bt bo bi (stT (globT p)).1 (stT (locT f)).1 [] H) (fun K hK => ?_) ?_
      · refine awp_region rfl ?_
        have hb1' := hb1
        simp only [Pg.row] at hb1'
        simp only [f1, hb1', List.length_map, Al.newObj, m1, m2, m3, m4, Int.one_mul, Int.natCast_one, Int.cast_ofNat_Int, AL, TY, aq, aint, astr, aWant, isPtr, abnd, ahi, alo, aload, rd, newObj, alit, aparts, astore, amapset, cellsOf, ev, avOf, av1, putF, upd, argF, TK.agg, aapp, asrc, one, aq.abuild, Nat.reduceEqDiff, Nat.reduceAdd, Nat.reduceLT, Nat.reduceLeDiff, Nat.reduceMul, Nat.reduceSub, reduceIte, reduceCtorEq, Int.reduceLE, Int.reduceToNat, Int.reduceLT, Int.reduceEq, Int.reduceAdd, Int.reduceSub, Int.reduceMul, Int.reduceNeg]
        refine awpN_intro fun bt hbt => ?_
        simp only [AL, TY, aq, aint, astr, aWant, isPtr, abnd, ahi, alo, aload, rd, newObj, alit, aparts, astore, amapset, cellsOf, ev, avOf, av1, putF, upd, argF, TK.agg, aapp, asrc, one, aq.abuild, Nat.reduceEqDiff, Nat.reduceAdd, Nat.reduceLT, Nat.reduceLeDiff, Nat.reduceMul, Nat.reduceSub, reduceIte, reduceCtorEq, Int.reduceLE, Int.reduceToNat, Int.reduceLT, Int.reduceEq, Int.reduceAdd, Int.reduceSub, Int.reduceMul, Int.reduceNeg]
        refine awpN_intro fun bc hbc => ?_
        have hne : bc ≠ bt := fun e => by rw [e, upd_same] at hbc; cases hbc
        have hne' : bt ≠ bc := fun e => hne e.symm
        have h8 : H bc = none := by simpa only [upd, if_neg hne] using hbc
        have old : ∀ (x : Nat) (o : AObj), H x = some o → x ≠ bt ∧ x ≠ bc := fun x o hx => ⟨fun e => (by rw [e, hbt] at hx; cases hx), fun e => (by rw [e, h8] at hx; cases hx)⟩
        simp only [AL, TY, aq, aint, astr, aWant, isPtr, abnd, ahi, alo, aload, rd, newObj, alit, aparts, astore, amapset, cellsOf, ev, avOf, av1, putF, upd, argF, TK.agg, aapp, asrc, one, aq.abuild, Nat.reduceEqDiff, Nat.reduceAdd, Nat.reduceLT, Nat.reduceLeDiff, Nat.reduceMul, Nat.reduceSub, reduceIte, reduceCtorEq, Int.reduceLE, Int.reduceToNat, Int.reduceLT, Int.reduceEq, Int.reduceAdd, Int.reduceSub, Int.reduceMul, Int.reduceNeg]
        refine hK _ _ ⟨bt, bc, hne, (old _ _ hba).1, fS, fL, hik, f1, f3, f5, f6, f7, f10, rfl, ?_, ?_, ?_, (old _ _ hb1).1, (old _ _ hb8).1, ?_, ?_, ?_, ?_, ?_⟩
        · obtain ⟨e1, e2⟩ := old _ _ hb1; simp only [upd, if_neg e1, if_neg e2]; exact hb1
        · obtain ⟨e1, e2⟩ := old _ _ hba; simp only [upd, if_neg e1, if_neg e2]; exact hba
        · obtain ⟨e1, e2⟩ := old _ _ hb8; simp only [upd, if_neg e1, if_neg e2]; exact hb8
        · obtain ⟨e1, e2⟩ := old _ _ hbn; simp only [upd, if_neg e1, if_neg e2]; exact hbn
        · simp [upd]
        · simp only [upd, if_neg hne', if_true]; rw [thereL_nil, List.map_replicate]; rfl
        · obtain ⟨e1, e2⟩ := old _ _ hbo; simp only [upd, if_neg e1, if_neg e2]; exact hbo
        · obtain ⟨e1, e2⟩ := old _ _ hbi; simp only [upd, if_neg e1, if_neg e2]; exact hbi
      rintro fr H ⟨bt, bc, hct, hat, fS, fL, hik, f1, f3, f5, f6, f7, f10, f11, hb1, hba, hb8, n1, n8, hD⟩
      refine awp_cutK (fun fr H => fr 24 = .isl 5 (p.funs.map Fu.row) ∧ fr 25 = .int .i64 p.funs.length ∧ fr 26 = .int .i64 k ∧ fr 1 = .ptr 3 b1 0 0 ∧ fr 3 = .mp bo ∧ fr 5 = .osl 1 ba p.funs.length ∧ fr 6 = .int .i64 k ∧ fr 11 = .ptr 1 bc 0 0 ∧ H b1 = some (.rows 3 [p.row]) ∧ H ba = some (.rows 1 (allR p k)) ∧ H bo = some (.amap ((stT (globT p)).1.map ent)) ∧ H bc = some (.rows 1 [[.osl 1 bt p.funs.length]]) ∧ H bt = some (.rows 1 ((thereL p.funs.length (isCall p k) (usesS f.body)).map boolRow))) (fun K hK => ?_) ?_
      · have hvis := visit_con (cllV p hp k bn bc bt bo bi _ _ hct hFind) f hokf [] H hD
        have hb8' := hb8
        simp only [Fu.row] at hb8' hvis
        refine awp_region rfl ?_
        simp only [f7, f10, f11, hb8', AL, TY, aq, aint, astr, aWant, isPtr, abnd, ahi, alo, aload, rd, newObj, alit, aparts, astore, amapset, cellsOf, ev, avOf, av1, putF, upd, argF, TK.agg, aapp, asrc, one, aq.abuild, Nat.reduceEqDiff, Nat.reduceAdd, Nat.reduceLT, Nat.reduceLeDiff, Nat.reduceMul, Nat.reduceSub, reduceIte, reduceCtorEq, Int.reduceLE, Int.reduceToNat, Int.reduceLT, Int.reduceEq, Int.reduceAdd, Int.reduceSub, Int.reduceMul, Int.reduceNeg]
        refine awpC_whole hvis (SubL.refl _) (fun _ => trivial) fun v H2 ⟨hv, hD2, hkp⟩ => ?_
        subst hv
        simp only [AL, TY, aq, aint, astr, aWant, isPtr, abnd, ahi, alo, aload, rd, newObj, alit, aparts, astore, amapset, cellsOf, ev, avOf, av1, putF, upd, argF, TK.agg, aapp, asrc, one, aq.abuild, Nat.reduceEqDiff, Nat.reduceAdd, Nat.reduceLT, Nat.reduceLeDiff, Nat.reduceMul, Nat.reduceSub, reduceIte, reduceCtorEq, Int.reduceLE, Int.reduceToNat, Int.reduceLT, Int.reduceEq, Int.reduceAdd, Int.reduceSub, Int.reduceMul, Int.reduceNeg]
        rw [show (cllV p hp k bn bc bt bo bi _ _ hct hFind).step = (fun us u => us ++ [u]) from rfl, fold_snoc, List.nil_append] at hD2
        obtain ⟨g1, g2, g3, g4, g5⟩ := hD2
        exact hK _ _ ⟨fS, fL, hik, f1, f3, f5, f6, f11, hkp _ _ n1 hb1, hkp _ _ hat hba, g4, g2, g3⟩
      rintro fr H ⟨fS, fL, hik, f1, f3, f5, f6, f11, hb1, hba, hbo, hbc, hbt⟩
      generalize usesS f.body = us at hbt hrow
      have hgetT : ∀ j, j < p.funs.length → ((thereL p.funs.length (isCall p k) us).map boolRow)[j]? = some [.bool (us.any (isCall p k j))] := fun j hj => by
        have hl : j < (thereL p.funs.length (isCall p k) us).length := by simp only [thereL, List.length_map, List.length_range]; exact hj
        rw [getRow _ (List.getElem?_eq_getElem hl)]
        simp [boolRow, thereL]
      generalize isCall p k = q at *
      generalize callsRow p k f = CR at *
      refine awp_seq_k fun K hK => ?_; refine awp_region rfl ?_; simp only [AL, TY, aq, aint, astr, aWant, isPtr, abnd, ahi, alo, aload, rd, newObj, alit, aparts, astore, amapset, cellsOf, ev, avOf, av1, putF, upd, argF, TK.agg, aapp, asrc, one, aq.abuild, Nat.reduceEqDiff, Nat.reduceAdd, Nat.reduceLT, Nat.reduceLeDiff, Nat.reduceMul, Nat.reduceSub, reduceIte, reduceCtorEq, Int.reduceLE, Int.reduceToNat, Int.reduceLT, Int.reduceEq, Int.reduceAdd, Int.reduceSub, Int.reduceMul, Int.reduceNeg]
      simp only [f11, hbc, AL, TY, aq, aint, astr, aWant, isPtr, abnd, ahi, alo, aload, rd, newObj, alit, aparts, astore, amapset, cellsOf, ev, avOf, av1, putF, upd, argF, TK.agg, aapp, asrc, one, aq.abuild, Nat.reduceEqDiff, Nat.reduceAdd, Nat.reduceLT, Nat.reduceLeDiff, Nat.reduceMul, Nat.reduceSub, reduceIte, reduceCtorEq, Int.reduceLE, Int.reduceToNat, Int.reduceLT, Int.reduceEq, Int.reduceAdd, Int.reduceSub, Int.reduceMul, Int.reduceNeg]
      refine hK _ _ ?_; clear hK K
      have hself := allR_self p hltk
      rw [← hself] at hba
      have hi0 : (k : Int) < (p.funs.length : Int) := by omega
      refine awp_block ?_
      refine awp_loopK (fun mm fr H => ∃ j : Nat, mm = p.funs.length - j ∧ j ≤ p.funs.length ∧ fr 48 = .int .i64 j ∧ ∃ v, fr 46 = .osl 1 bt p.funs.length ∧ fr 47 = .int .i64 p.funs.length ∧ fr 24 = .isl 5 (p.funs.map Fu.row) ∧ fr 25 = .int .i64 p.funs.length ∧ fr 26 = .int .i64 k ∧ fr 1 = .ptr 3 b1 0 0 ∧ fr 3 = .mp bo ∧ fr 5 = .osl 1 ba p.funs.length ∧ fr 6 = .int .i64 k ∧ H b1 = some (.rows 3 [p.row]) ∧ H ba = some (.rows 1 ((allR p k).set k [v])) ∧ H bo = some (.amap ((stT (globT p)).1.map ent)) ∧ H bt = some (.rows 1 ((thereL p.funs.length q us).map boolRow)) ∧ OwnL 1 v ((((List.range j).filter fun n => us.any (q n)).map fun (n : Nat) => (n : Int)).map intRow) H ∧ apart v (.osl 1 bt p.funs.length) ∧ apart v (.osl 1 ba p.funs.length)) (p.funs.length) ⟨0, rfl, Nat.zero_le _, rfl, .nsl, rfl, rfl, fS, fL, hik, f1, f3, f5, f6, hb1, hba, hbo, hbt, .inl ⟨rfl, by simp⟩, apart.nsl _, apart.nsl _⟩ ?_
      rintro mm fr H ⟨j, rfl, hkj, hij, v, f46, f47, fS, fL, hik, f1, f3, f5, f6, hb1, hba, hbo, hbt, hv, hat1, hat2⟩ K3 hK3
      refine awp_seq_k fun K hK => ?_; refine awp_region rfl ?_; simp only [AL, TY, aq, aint, astr, aWant, isPtr, abnd, ahi, alo, aload, rd, newObj, alit, aparts, astore, amapset, cellsOf, ev, avOf, av1, putF, upd, argF, TK.agg, aapp, asrc, one, aq.abuild, Nat.reduceEqDiff, Nat.reduceAdd, Nat.reduceLT, Nat.reduceLeDiff, Nat.reduceMul, Nat.reduceSub, reduceIte, reduceCtorEq, Int.reduceLE, Int.reduceToNat, Int.reduceLT, Int.reduceEq, Int.reduceAdd, Int.reduceSub, Int.reduceMul, Int.reduceNeg]
      simp only [hij, f47,List.length_map, AL, TY, aq, aint, astr, aWant, isPtr, abnd, ahi, alo, aload, rd, newObj, alit, aparts, astore, amapset, cellsOf, ev, avOf, av1, putF, upd, argF, TK.agg, aapp, asrc, one, aq.abuild, Nat.reduceEqDiff, Nat.reduceAdd, Nat.reduceLT, Nat.reduceLeDiff, Nat.reduceMul, Nat.reduceSub, reduceIte, reduceCtorEq, Int.reduceLE, Int.reduceToNat, Int.reduceLT, Int.reduceEq, Int.reduceAdd, Int.reduceSub, Int.reduceMul, Int.reduceNeg]
      refine hK _ _ ?_; clear hK K
      refine awp_seq ?_
      refine awp_if _ rfl (fun hc => ?_) (fun hc => ?_)
      · have hltj : j < p.funs.length := by have := of_decide_eq_true hc; omega
        clear hc
        refine awp_skip ?_; simp only [thenQ, blockQ]
        refine awp_seq ?_
        refine awp_block ?_
        have hgj := hgetT j hltj
        have hi1 : (j : Int) < (p.funs.length : Int) := by omega
        have hrl : ((List.range j).filter fun n => us.any (q n)).length ≤ j := by
          have := List.length_filter_le (fun n => us.any (q n)) (List.range j)
          rwa [List.length_range] at this
        refine awp_seq_k fun K hK => ?_; refine awp_region rfl ?_; simp only [AL, TY, aq, aint, astr, aWant, isPtr, abnd, ahi, alo, aload, rd, newObj, alit, aparts, astore, amapset, cellsOf, ev, avOf, av1, putF, upd, argF, TK.agg, aapp, asrc, one, aq.abuild, Nat.reduceEqDiff, Nat.reduceAdd, Nat.reduceLT, Nat.reduceLeDiff, Nat.reduceMul, Nat.reduceSub, reduceIte, reduceCtorEq, Int.reduceLE, Int.reduceToNat, Int.reduceLT, Int.reduceEq, Int.reduceAdd, Int.reduceSub, Int.reduceMul, Int.reduceNeg]
        simp only [f46, hij, hbt, hgj, hi1, AL, TY, aq, aint, astr, aWant, isPtr, abnd, ahi, alo, aload, rd, newObj, alit, aparts, astore, amapset, cellsOf, ev, avOf, av1, putF, upd, argF, TK.agg, aapp, asrc, one, aq.abuild, Nat.reduceEqDiff, Nat.reduceAdd, Nat.reduceLT, Nat.reduceLeDiff, Nat.reduceMul, Nat.reduceSub, reduceIte, reduceCtorEq, Int.reduceLE, Int.reduceToNat, Int.reduceLT, Int.reduceEq, Int.reduceAdd, Int.reduceSub, Int.reduceMul, Int.reduceNeg]
        refine hK _ _ ?_; clear hK K
        refine awp_seq_k fun K hK => ?_; refine awp_region rfl ?_; simp only [AL, TY, aq, aint, astr, aWant, isPtr, abnd, ahi, alo, aload, rd, newObj, alit, aparts, astore, amapset, cellsOf, ev, avOf, av1, putF, upd, argF, TK.agg, aapp, asrc, one, aq.abuild, Nat.reduceEqDiff, Nat.reduceAdd, Nat.reduceLT, Nat.reduceLeDiff, Nat.reduceMul, Nat.reduceSub, reduceIte, reduceCtorEq, Int.reduceLE, Int.reduceToNat, Int.reduceLT, Int.reduceEq, Int.reduceAdd, Int.reduceSub, Int.reduceMul, Int.reduceNeg]
        refine hK _ _ ?_; clear hK K
        cases hany : us.any (q j) with
        | false =>
          refine awp_if false (by simp [upd, ev, hany]) (fun hc => by cases hc) (fun _ => ?_)
          refine awp_skip ?_; simp only [thenQ, blockQ]
          refine awp_region rfl ?_; simp only [AL, TY, aq, aint, astr, aWant, isPtr, abnd, ahi, alo, aload, rd, newObj, alit, aparts, astore, amapset, cellsOf, ev, avOf, av1, putF, upd, argF, TK.agg, aapp, asrc, one, aq.abuild, Nat.reduceEqDiff, Nat.reduceAdd, Nat.reduceLT, Nat.reduceLeDiff, Nat.reduceMul, Nat.reduceSub, reduceIte, reduceCtorEq, Int.reduceLE, Int.reduceToNat, Int.reduceLT, Int.reduceEq, Int.reduceAdd, Int.reduceSub, Int.reduceMul, Int.reduceNeg]
          simp only [hij, thenQ, blockQ, AL, TY, aq, aint, astr, aWant, isPtr, abnd, ahi, alo, aload, rd, newObj, alit, aparts, astore, amapset, cellsOf, ev, avOf, av1, putF, upd, argF, TK.agg, aapp, asrc, one, aq.abuild, Nat.reduceEqDiff, Nat.reduceAdd, Nat.reduceLT, Nat.reduceLeDiff, Nat.reduceMul, Nat.reduceSub, reduceIte, reduceCtorEq, Int.reduceLE, Int.reduceToNat, Int.reduceLT, Int.reduceEq, Int.reduceAdd, Int.reduceSub, Int.reduceMul, Int.reduceNeg]
          rw [IntWalk.i64_in _ (by omega)]
          refine hK3 (p.funs.length - (j + 1)) _ _ (by omega) ⟨j + 1, rfl, by omega, rfl, v, f46, f47, fS, fL, hik, f1, f3, f5, f6, hb1, hba, hbo, hbt, by rw [List.range_succ, List.filter_append, List.filter_cons, hany]; simpa [upd] using hv, hat1, hat2⟩
        | true =>
          refine awp_if true (by simp [upd, ev, hany]) (fun _ => ?_) (fun hc => by cases hc)
          have hga := allR_get p hltk [v]
          refine awp_region rfl ?_
          simp only [f5, f6, hi0, hba, hga, AL, TY, aq, aint, astr, aWant, isPtr, abnd, ahi, alo, aload, rd, newObj, alit, aparts, astore, amapset, cellsOf, ev, avOf, av1, putF, upd, argF, TK.agg, aapp, asrc, one, aq.abuild, Nat.reduceEqDiff, Nat.reduceAdd, Nat.reduceLT, Nat.reduceLeDiff, Nat.reduceMul, Nat.reduceSub, reduceIte, reduceCtorEq, Int.reduceLE, Int.reduceToNat, Int.reduceLT, Int.reduceEq, Int.reduceAdd, Int.reduceSub, Int.reduceMul, Int.reduceNeg]
          refine awpB_sealed ?_
          simp only [AL, TY, aq, aint, astr, aWant, isPtr, abnd, ahi, alo, aload, rd, newObj, alit, aparts, astore, amapset, cellsOf, ev, avOf, av1, putF, upd, argF, TK.agg, aapp, asrc, one, aq.abuild, Nat.reduceEqDiff, Nat.reduceAdd, Nat.reduceLT, Nat.reduceLeDiff, Nat.reduceMul, Nat.reduceSub, reduceIte, reduceCtorEq, Int.reduceLE, Int.reduceToNat, Int.reduceLT, Int.reduceEq, Int.reduceAdd, Int.reduceSub, Int.reduceMul, Int.reduceNeg]
          refine awpA_grow hv (by simp only [List.length_map, List.length_cons, List.length_nil]; omega) (fun _ => trivial) fun v' H' hv' hk' ha' => ?_
          have hbt' := hk' bt _ hbt (fun e => hat1 bt _ _ 1 p.funs.length e rfl)
          have hba' := hk' ba _ hba (fun e => hat2 ba _ _ 1 p.funs.length e rfl)
          have hb1' := hk' b1 _ hb1 (fun e => by
            rcases hv with ⟨e1, _⟩ | ⟨b', e1, e2⟩
            · rw [e1] at e; cases e
            · rw [e1] at e; cases e; rw [hb1] at e2; cases e2)
          have hbo' := hk' bo _ hbo (fun e => by
            rcases hv with ⟨e1, _⟩ | ⟨b', e1, e2⟩
            · rw [e1] at e; cases e
            · rw [e1] at e; cases e; rw [hbo] at e2; cases e2)
          rcases hv' with ⟨_, he⟩ | ⟨bx, rfl, hbx⟩
          · simp at he
          have hv' := OwnL.keep (sz := 1) (sz' := 1) (w := .nsl) (r2 := []) (Or.inr ⟨bx, rfl, hbx⟩) (apart.nsl _) (fun b o h _ => h)
          have h1' := ha' _ hat1 (fun s b n e => by cases e; rw [hbt]; simp)
          have h2' := ha' _ hat2 (fun s b n e => by cases e; rw [hba]; simp)
          simp only [f5, f6, hi0, hba', hga, thenQ, blockQ, AL, TY, aq, aint, astr, aWant, isPtr, abnd, ahi, alo, aload, rd, newObj, alit, aparts, astore, amapset, cellsOf, ev, avOf, av1, putF, upd, argF, TK.agg, aapp, asrc, one, aq.abuild, Nat.reduceEqDiff, Nat.reduceAdd, Nat.reduceLT, Nat.reduceLeDiff, Nat.reduceMul, Nat.reduceSub, reduceIte, reduceCtorEq, Int.reduceLE, Int.reduceToNat, Int.reduceLT, Int.reduceEq, Int.reduceAdd, Int.reduceSub, Int.reduceMul, Int.reduceNeg]
          refine awp_region rfl ?_; simp only [AL, TY, aq, aint, astr, aWant, isPtr, abnd, ahi, alo, aload, rd, newObj, alit, aparts, astore, amapset, cellsOf, ev, avOf, av1, putF, upd, argF, TK.agg, aapp, asrc, one, aq.abuild, Nat.reduceEqDiff, Nat.reduceAdd, Nat.reduceLT, Nat.reduceLeDiff, Nat.reduceMul, Nat.reduceSub, reduceIte, reduceCtorEq, Int.reduceLE, Int.reduceToNat, Int.reduceLT, Int.reduceEq, Int.reduceAdd, Int.reduceSub, Int.reduceMul, Int.reduceNeg]
          simp only [hij, thenQ, blockQ, AL, TY, aq, aint, astr, aWant, isPtr, abnd, ahi, alo, aload, rd, newObj, alit, aparts, astore, amapset, cellsOf, ev, avOf, av1, putF, upd, argF, TK.agg, aapp, asrc, one, aq.abuild, Nat.reduceEqDiff, Nat.reduceAdd, Nat.reduceLT, Nat.reduceLeDiff, Nat.reduceMul, Nat.reduceSub, reduceIte, reduceCtorEq, Int.reduceLE, Int.reduceToNat, Int.reduceLT, Int.reduceEq, Int.reduceAdd, Int.reduceSub, Int.reduceMul, Int.reduceNeg]
          rw [IntWalk.i64_in _ (by omega)]
          refine hK3 (p.funs.length - (j + 1)) _ _ (by omega) ⟨j + 1, rfl, by omega, rfl, .osl 1 bx _, f46, f47, fS, fL, hik, f1, f3, f5, f6, ?_, ?_, ?_, ?_, ?_, h1', h2'⟩
          · have : b1 ≠ ba := fun e => by rw [e, hba'] at hb1'; cases hb1'
            simp only [upd, if_neg this]; exact hb1'
          · rw [upd_same]; simp only [List.set_set]
          · have : bo ≠ ba := fun e => by rw [e, hba'] at hbo'; cases hbo'
            simp only [upd, if_neg this]; exact hbo'
          · have : bt ≠ ba := fun e => hat e.symm
            simp only [upd, if_neg this]; exact hbt'
          · rw [List.range_succ, List.filter_append, List.filter_cons, hany, List.map_append, List.map_append]
            exact hv'.keep (w := .osl 1 ba p.funs.length) (sz' := 1) (r2 := List.replicate p.funs.length []) h2'.symm (fun b' o h1 h2 => by
              have : b' ≠ ba := fun e => h2 (by rw [e, List.length_replicate])
              simp only [upd, if_neg this]; exact h1)
      · refine awp_exit ?_; simp only [thenQ, blockQ, reduceIte, Nat.reduceEqDiff]
        have hknj : j = p.funs.length := by have := of_decide_eq_false hc; omega
        clear hc
        subst hknj
        rw [← hrow] at hv
        rcases hv with ⟨rfl, he⟩ | ⟨bx, rfl, hbx⟩
        · have hCR : CR = [] := by simpa using he
          rw [hCR] at hnx
          refine awp_weakRows (l' := (allR p k).set k (intsRow [])) hba (by simp) (fun i r r' hr hr' => ?_) ?_
          · exact allR_sub p hltk i r r' hr hr'
          rw [hnx]
          have q1 : b1 ≠ ba := fun e => by rw [e, hba] at hb1; cases hb1
          have q2 : bo ≠ ba := fun e => by rw [e, hba] at hbo; cases hbo
          refine awp_region rfl ?_; simp only [AL, TY, aq, aint, astr, aWant, isPtr, abnd, ahi, alo, aload, rd, newObj, alit, aparts, astore, amapset, cellsOf, ev, avOf, av1, putF, upd, argF, TK.agg, aapp, asrc, one, aq.abuild, Nat.reduceEqDiff, Nat.reduceAdd, Nat.reduceLT, Nat.reduceLeDiff, Nat.reduceMul, Nat.reduceSub, reduceIte, reduceCtorEq, Int.reduceLE, Int.reduceToNat, Int.reduceLT, Int.reduceEq, Int.reduceAdd, Int.reduceSub, Int.reduceMul, Int.reduceNeg]
          simp only [hik, thenQ, blockQ, AL, TY, aq, aint, astr, aWant, isPtr, abnd, ahi, alo, aload, rd, newObj, alit, aparts, astore, amapset, cellsOf, ev, avOf, av1, putF, upd, argF, TK.agg, aapp, asrc, one, aq.abuild, Nat.reduceEqDiff, Nat.reduceAdd, Nat.reduceLT, Nat.reduceLeDiff, Nat.reduceMul, Nat.reduceSub, reduceIte, reduceCtorEq, Int.reduceLE, Int.reduceToNat, Int.reduceLT, Int.reduceEq, Int.reduceAdd, Int.reduceSub, Int.reduceMul, Int.reduceNeg]
          rw [IntWalk.i64_in _ (by omega)]
          refine hK2 (p.funs.length - (k + 1)) _ _ (by omega) ⟨k + 1, rfl, by omega, rfl, fS, fL, f1, f3, f5, ?_, ?_, upd_same _ _ _⟩
          · simp only [upd, if_neg q1]; exact hb1
          · simp only [upd, if_neg q2]; exact hbo
        · have q1 : b1 ≠ bx := fun e => by rw [e, hbx] at hb1; cases hb1
          have q2 : bo ≠ bx := fun e => by rw [e, hbx] at hbo; cases hbo
          have q3 : ba ≠ bx := fun e => by
            subst e
            exact hat2 ba 1 _ 1 _ rfl rfl
          refine awp_freezeAll hbx ?_
          have G24 : frz bx 1 (CR.map intRow) (fr 24) = .isl 5 (p.funs.map Fu.row) := by rw [fS]; simp only [frz]
          have G25 : frz bx 1 (CR.map intRow) (fr 25) = .int .i64 p.funs.length := by rw [fL]; simp only [frz]
          have G26 : frz bx 1 (CR.map intRow) (fr 26) = .int .i64 k := by rw [hik]; simp only [frz]
          have G1 : frz bx 1 (CR.map intRow) (fr 1) = .ptr 3 b1 0 0 := by rw [f1]; simp only [frz]
          have G3 : frz bx 1 (CR.map intRow) (fr 3) = .mp bo := by rw [f3]; simp only [frz]
          have G5 : frz bx 1 (CR.map intRow) (fr 5) = .osl 1 ba p.funs.length := by rw [f5]; simp [frz, q3]
          have K1 : (if b1 = bx then none else (H b1).map (frzO bx 1 (CR.map intRow))) = some (.rows 3 [p.row]) := by rw [if_neg q1, hb1]; simp [frzO, Pg.row, frz]
          have K2' : (if bo = bx then none else (H bo).map (frzO bx 1 (CR.map intRow))) = some (.amap ((stT (globT p)).1.map ent)) := by rw [if_neg q2, hbo]; rfl
          have K3 : (if ba = bx then none else (H ba).map (frzO bx 1 (CR.map intRow))) = some (.rows 1 (allR p (k + 1))) := by
            rw [if_neg q3, hba, Option.map_some, frzO, allR_frz p hltk, frz_self, ← hnx]; rfl
          refine awp_region rfl ?_; simp only [AL, TY, aq, aint, astr, aWant, isPtr, abnd, ahi, alo, aload, rd, newObj, alit, aparts, astore, amapset, cellsOf, ev, avOf, av1, putF, upd, argF, TK.agg, aapp, asrc, one, aq.abuild, Nat.reduceEqDiff, Nat.reduceAdd, Nat.reduceLT, Nat.reduceLeDiff, Nat.reduceMul, Nat.reduceSub, reduceIte, reduceCtorEq, Int.reduceLE, Int.reduceToNat, Int.reduceLT, Int.reduceEq, Int.reduceAdd, Int.reduceSub, Int.reduceMul, Int.reduceNeg]
          simp only [G26, thenQ, blockQ, AL, TY, aq, aint, astr, aWant, isPtr, abnd, ahi, alo, aload, rd, newObj, alit, aparts, astore, amapset, cellsOf, ev, avOf, av1, putF, upd, argF, TK.agg, aapp, asrc, one, aq.abuild, Nat.reduceEqDiff, Nat.reduceAdd, Nat.reduceLT, Nat.reduceLeDiff, Nat.reduceMul, Nat.reduceSub, reduceIte, reduceCtorEq, Int.reduceLE, Int.reduceToNat, Int.reduceLT, Int.reduceEq, Int.reduceAdd, Int.reduceSub, Int.reduceMul, Int.reduceNeg]
          rw [IntWalk.i64_in _ (by omega)]
          exact hK2 (p.funs.length - (k + 1)) _ _ (by omega) ⟨k + 1, rfl, by omega, rfl, G24, G25, G1, G3, G5, K1, K2', K3⟩
    · refine awp_exit ?_; simp only [thenQ, blockQ, reduceIte, Nat.reduceEqDiff]
      have hknk : k = p.funs.length := by have := of_decide_eq_false hc; omega
      clear hc
      subst hknk
      rw [allR_all] at hba
      exact hK _ _ ⟨f5, hba⟩
  rintro fr H ⟨f5, hba⟩
  have hl := callsFrom_len p p.funs 0
  have hown : OwnL 1 (fr 5) ((callsP p).map intsRow) H := .inr ⟨ba, by rw [f5, List.length_map, callsP, hl], hba⟩
  refine awp_seq_k fun K hK => ?_; refine awp_region rfl ?_; simp only [AL, TY, aq, aint, astr, aWant, isPtr, abnd, ahi, alo, aload, rd, newObj, alit, aparts, astore, amapset, cellsOf, ev, avOf, av1, putF, upd, argF, TK.agg, aapp, asrc, one, aq.abuild, Nat.reduceEqDiff, Nat.reduceAdd, Nat.reduceLT, Nat.reduceLeDiff, Nat.reduceMul, Nat.reduceSub, reduceIte, reduceCtorEq, Int.reduceLE, Int.reduceToNat, Int.reduceLT, Int.reduceEq, Int.reduceAdd, Int.reduceSub, Int.reduceMul, Int.reduceNeg]
  refine hK _ _ ?_; clear hK K
  refine awp_ret ?_
  simp only [thenQ, blockQ, bodyQ, aresult, ares, argF, AL, TY, aq, aint, astr, aWant, isPtr, abnd, ahi, alo, aload, rd, newObj, alit, aparts, astore, amapset, cellsOf, ev, avOf, av1, putF, upd, argF, TK.agg, aapp, asrc, one, aq.abuild, Nat.reduceEqDiff, Nat.reduceAdd, Nat.reduceLT, Nat.reduceLeDiff, Nat.reduceMul, Nat.reduceSub, reduceIte, reduceCtorEq, Int.reduceLE, Int.reduceToNat, Int.reduceLT, Int.reduceEq, Int.reduceAdd, Int.reduceSub, Int.reduceMul, Int.reduceNeg]
  exact hown.gives1 rfl
end Go.Proofs.Ytnbokmbjiioooaa
