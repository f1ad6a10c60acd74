/- Chapter 16, the program's: what Check does with a use. -/
import Derived.Test.YtnbokmbjiioooaaS16l
set_option linter.unusedSimpArgs false
set_option linter.unusedVariables false
namespace Go.Proofs.Ytnbokmbjiioooaa
open Go.Al
/-- what memory holds while a function's uses are looked at -/
def chkD (p : Pg) (i : Nat) (bn b5 b7 b1 b6 bo bi : Nat) (mo mi : List Th) (a : Bool × Bool) (H : Hp) : Prop :=
  H bn = some (.rows 2 [[.mp bo, .mp bi]]) ∧ H b5 = some (.rows 1 [[.bool a.1]]) ∧ H b7 = some (.rows 1 [[.int .i64 i]]) ∧ H b1 = some (.rows 3 [p.row]) ∧ H b6 = some (.rows 1 [[.bool a.2]]) ∧
    H bo = some (.amap (mo.map ent)) ∧ H bi = some (.amap (mi.map ent))
section
variable {p : Pg} {i bn b5 b7 b1 b6 bo bi : Nat} {mo mi : List Th} {a : Bool × Bool} {H : Hp}
theorem chkD.ext (h : chkD p i bn b5 b7 b1 b6 bo bi mo mi a H) {H' : Hp} (hk : keeps (fun _ => False) H H') : chkD p i bn b5 b7 b1 b6 bo bi mo mi a H' := by
  obtain ⟨h1, h2, h3, h4, h5, h6, h7⟩ := h
  exact ⟨hk _ _ (fun h => h) h1, hk _ _ (fun h => h) h2, hk _ _ (fun h => h) h3, hk _ _ (fun h => h) h4, hk _ _ (fun h => h) h5, hk _ _ (fun h => h) h6, hk _ _ (fun h => h) h7⟩
theorem chkD.set5 (h : chkD p i bn b5 b7 b1 b6 bo bi mo mi a H) (h56 : b5 ≠ b6) (x : Bool) : chkD p i bn b5 b7 b1 b6 bo bi mo mi (x, a.2) (upd H b5 (some (.rows 1 [[.bool x]]))) := by
  obtain ⟨h1, h2, h3, h4, h5, h6, h7⟩ := h
  have n1 : bn ≠ b5 := fun e => by rw [e, h2] at h1; simp at h1
  have n3 : b7 ≠ b5 := fun e => by rw [e, h2] at h3; simp at h3
  have n4 : b1 ≠ b5 := fun e => by rw [e, h2] at h4; simp at h4
  have n5 : b6 ≠ b5 := fun e => h56 e.symm
  have n6 : bo ≠ b5 := fun e => by rw [e, h2] at h6; simp at h6
  have n7 : bi ≠ b5 := fun e => by rw [e, h2] at h7; simp at h7
  simp only [chkD, upd, n1, n3, n4, n5, n6, n7, if_true, if_false]
  exact ⟨h1, trivial, h3, h4, h5, h6, h7⟩
theorem chkD.set6 (h : chkD p i bn b5 b7 b1 b6 bo bi mo mi a H) (h56 : b5 ≠ b6) (x : Bool) : chkD p i bn b5 b7 b1 b6 bo bi mo mi (a.1, x) (upd H b6 (some (.rows 1 [[.bool x]]))) := by
  obtain ⟨h1, h2, h3, h4, h5, h6, h7⟩ := h
  have n1 : bn ≠ b6 := fun e => by rw [e, h5] at h1; simp at h1
  have n3 : b7 ≠ b6 := fun e => by rw [e, h5] at h3; simp at h3
  have n4 : b1 ≠ b6 := fun e => by rw [e, h5] at h4; simp at h4
  have n6 : bo ≠ b6 := fun e => by rw [e, h5] at h6; simp at h6
  have n7 : bi ≠ b6 := fun e => by rw [e, h5] at h7; simp at h7
  simp only [chkD, upd, n1, n3, n4, h56, n6, n7, if_true, if_false]
  exact ⟨h1, h2, h3, h4, trivial, h6, h7⟩
end
set_option maxHeartbeats 4000000 in
theorem chk_con (p : Pg) (hp : p.few) (i : Nat) (hi : i < p.funs.length) (bn b5 b7 b1 b6 bo bi : Nat) (mo mi : List Th) (h56 : b5 ≠ b6) (hF : ∀ s, findM mo mi s = findF p i s)
    (a : Bool × Bool) (H : Hp) (u : Us) (hu : u.kind = 1 ∨ u.kind = 3 ∨ u.kind = 4) (hD : chkD p i bn b5 b7 b1 b6 bo bi mo mi a H) :
    Con env 30 [useV u, .ptr 2 bn 0 0, .ptr 1 b5 0 0, .ptr 1 b7 0 0, .ptr 3 b1 0 0, .ptr 1 b6 0 0] H
      (fun ae H' => ∃ v, ae = .ret v ∧ (v = .tup [] ∧ chkD p i bn b5 b7 b1 b6 bo bi mo mi (stepC p i a u) H' ∧ keeps (fun b => b = b5 ∨ b = b6) H H')) := by
  have hfind := fun H' h1 h2 => find_con mo mi bo bi u.name H' h1 h2
  rw [hF] at hfind
  have hok : okUse p i u = !((decide (u.kind = 1) && !decide ((findF p i u.name).1 = 1) && !decide ((findF p i u.name).1 = 2)) || (decide (u.kind = 3) && !decide ((findF p i u.name).1 = 3)) || (decide (u.kind = 4) && (!decide ((findF p i u.name).1 = 4) || decide ((i : Int) ≤ (findF p i u.name).2)))) := rfl
  have hnu : numU p i u = (!decide (u.kind = 4) || (match p.funs[(findF p i u.name).2.toNat]? with | some g => decide ((g.params.length : Int) = u.num) | none => false)) := rfl
  have hcall := findF_call p i u.name
  have hst : stepC p i a u = (a.1 && okUse p i u, a.2 && (!okUse p i u || numU p i u)) := rfl
  rw [hst]
  generalize okUse p i u = ok at hok ⊢
  generalize numU p i u = nu at hnu ⊢
  generalize findF p i u.name = r at *
  obtain ⟨un, uk, uu⟩ := u
  simp only at hu hok hnu hfind
  refine con_of 57 [] Try.func30 rfl rfl rfl rfl ?_
  simp only [useV]
  refine awp_cutK (fun fr H' => ∃ bu, fr 1 = .ptr 2 bn 0 0 ∧ fr 2 = .ptr 1 b5 0 0 ∧ fr 3 = .ptr 1 b7 0 0 ∧ fr 4 = .ptr 3 b1 0 0 ∧ fr 5 = .ptr 1 b6 0 0 ∧ fr 6 = .ptr 3 bu 0 0 ∧ H' bu = some (.rows 3 [[.int .i64 (if uk = 1 then 2 else uk), .str un, .int .i64 uu]]) ∧ H bu = none ∧ keeps (fun _ => False) H H') (fun K hK => ?_) ?_
  · refine awp_region rfl ?_; simp only [AL, TY, aq, aint, astr, aWant, isPtr, abnd, ahi, alo, aload, rd, newObj, alit, aparts, astore, amapset, cellsOf, ev, avOf, av1, putF, upd, argF, TK.agg, aapp, asrc, one, aq.abuild, Nat.reduceEqDiff, Nat.reduceAdd, Nat.reduceLT, Nat.reduceLeDiff, Nat.reduceMul, Nat.reduceSub, reduceIte, reduceCtorEq, Int.reduceLE, Int.reduceToNat, Int.reduceLT, Int.reduceEq, Int.reduceAdd, Int.reduceSub, Int.reduceMul, Int.reduceNeg]
    refine awpN_intro fun bu hbu => ?_
    simp only [AL, TY, aq, aint, astr, aWant, isPtr, abnd, ahi, alo, aload, rd, newObj, alit, aparts, astore, amapset, cellsOf, ev, avOf, av1, putF, upd, argF, TK.agg, aapp, asrc, one, aq.abuild, Nat.reduceEqDiff, Nat.reduceAdd, Nat.reduceLT, Nat.reduceLeDiff, Nat.reduceMul, Nat.reduceSub, reduceIte, reduceCtorEq, Int.reduceLE, Int.reduceToNat, Int.reduceLT, Int.reduceEq, Int.reduceAdd, Int.reduceSub, Int.reduceMul, Int.reduceNeg]
    exact hK _ _ ⟨bu, rfl, rfl, rfl, rfl, rfl, rfl, upd_same _ _ _, hbu, (keeps.refl _ H).new hbu _⟩
  rintro fr H1 ⟨bu, f1, f2, f3, f4, f5, f6, hbu, hbn, hk⟩
  have hD1 := hD.ext hk
  refine awp_cutK (fun fr H' => ∃ bt, fr 2 = .ptr 1 b5 0 0 ∧ fr 3 = .ptr 1 b7 0 0 ∧ fr 4 = .ptr 3 b1 0 0 ∧ fr 5 = .ptr 1 b6 0 0 ∧ fr 6 = .ptr 3 bu 0 0 ∧ fr 7 = .ptr 2 bt 0 0 ∧ H' bt = some (.rows 2 [[.int .i64 r.1, .int .i64 r.2]]) ∧ H' bu = some (.rows 3 [[.int .i64 (if uk = 1 then 2 else uk), .str un, .int .i64 uu]]) ∧ keeps (fun _ => False) H H') (fun K hK => ?_) ?_
  · obtain ⟨d1, d2, d3, d4, d5, d6, d7⟩ := hD1
    refine awp_region rfl ?_
    simp only [f1, f6, d1, hbu, AL, TY, aq, aint, astr, aWant, isPtr, abnd, ahi, alo, aload, rd, newObj, alit, aparts, astore, amapset, cellsOf, ev, avOf, av1, putF, upd, argF, TK.agg, aapp, asrc, one, aq.abuild, Nat.reduceEqDiff, Nat.reduceAdd, Nat.reduceLT, Nat.reduceLeDiff, Nat.reduceMul, Nat.reduceSub, reduceIte, reduceCtorEq, Int.reduceLE, Int.reduceToNat, Int.reduceLT, Int.reduceEq, Int.reduceAdd, Int.reduceSub, Int.reduceMul, Int.reduceNeg]
    refine awpC_whole (hfind H1 d6 d7) (SubL.refl _) (fun _ => trivial) fun v H2 ⟨hv, hk2⟩ => ?_
    subst hv
    simp only [thV, AL, TY, aq, aint, astr, aWant, isPtr, abnd, ahi, alo, aload, rd, newObj, alit, aparts, astore, amapset, cellsOf, ev, avOf, av1, putF, upd, argF, TK.agg, aapp, asrc, one, aq.abuild, Nat.reduceEqDiff, Nat.reduceAdd, Nat.reduceLT, Nat.reduceLeDiff, Nat.reduceMul, Nat.reduceSub, reduceIte, reduceCtorEq, Int.reduceLE, Int.reduceToNat, Int.reduceLT, Int.reduceEq, Int.reduceAdd, Int.reduceSub, Int.reduceMul, Int.reduceNeg]
    refine awpN_intro fun bt hbt => ?_
    simp only [AL, TY, aq, aint, astr, aWant, isPtr, abnd, ahi, alo, aload, rd, newObj, alit, aparts, astore, amapset, cellsOf, ev, avOf, av1, putF, upd, argF, TK.agg, aapp, asrc, one, aq.abuild, Nat.reduceEqDiff, Nat.reduceAdd, Nat.reduceLT, Nat.reduceLeDiff, Nat.reduceMul, Nat.reduceSub, reduceIte, reduceCtorEq, Int.reduceLE, Int.reduceToNat, Int.reduceLT, Int.reduceEq, Int.reduceAdd, Int.reduceSub, Int.reduceMul, Int.reduceNeg]
    have hub := hk2 _ _ (fun h => h) hbu
    have hne : bu ≠ bt := fun e => by rw [e, hbt] at hub; cases hub
    refine hK _ _ ⟨bt, f2, f3, f4, f5, f6, rfl, upd_same _ _ _, by simp only [upd, if_neg hne]; exact hub, ?_⟩
    intro b' o' hm hb'
    have h9 := hk2 b' o' hm (hk b' o' hm hb')
    have : b' ≠ bt := fun e => by rw [e, hbt] at h9; cases h9
    simp only [upd, if_neg this]; exact h9
  rintro fr H2 ⟨bt, f2, f3, f4, f5, f6, f7, hbt, hbu, hk2⟩
  have hD2 := hD.ext hk2
  have hD3 := hD2
  obtain ⟨d1, d2, d3, d4, d5, d6, d7⟩ := hD3
  have hK5 : ∀ x : Bool, keeps (fun b => b = b5 ∨ b = b6) H (upd H2 b5 (some (.rows 1 [[.bool x]]))) := fun x => (hk2.mono fun _ h => h.elim).set (.inl rfl) _
  have hK6 : ∀ x : Bool, keeps (fun b => b = b5 ∨ b = b6) H (upd H2 b6 (some (.rows 1 [[.bool x]]))) := fun x => (hk2.mono fun _ h => h.elim).set (.inr rfl) _
  have hS5 := fun x => hD2.set5 h56 x
  have hS6 := fun x => hD2.set6 h56 x
  generalize hX : (a.1 && ok) = X
  generalize hY : (a.2 && (!ok || nu)) = Y
  have fin : ∀ (x y : Bool) (H' : Hp), X = x → Y = y → chkD p i bn b5 b7 b1 b6 bo bi mo mi (x, y) H' → keeps (fun b => b = b5 ∨ b = b6) H H' →
      Gives (fun ae H' => ∃ v, ae = .ret v ∧ (v = .tup [] ∧ chkD p i bn b5 b7 b1 b6 bo bi mo mi (X, Y) H' ∧ keeps (fun b => b = b5 ∨ b = b6) H H')) (.tup []) H' := fun x y H' e1 e2 h1 h2 => by
    subst e1; subst e2
    exact Gives.whole ⟨rfl, h1, h2⟩
  have same : chkD p i bn b5 b7 b1 b6 bo bi mo mi (a.1, a.2) H2 := hD2
  refine awp_seq_k fun K hK => ?_; refine awp_region rfl ?_; simp only [AL, TY, aq, aint, astr, aWant, isPtr, abnd, ahi, alo, aload, rd, newObj, alit, aparts, astore, amapset, cellsOf, ev, avOf, av1, putF, upd, argF, TK.agg, aapp, asrc, one, aq.abuild, Nat.reduceEqDiff, Nat.reduceAdd, Nat.reduceLT, Nat.reduceLeDiff, Nat.reduceMul, Nat.reduceSub, reduceIte, reduceCtorEq, Int.reduceLE, Int.reduceToNat, Int.reduceLT, Int.reduceEq, Int.reduceAdd, Int.reduceSub, Int.reduceMul, Int.reduceNeg]
  simp only [f6, hbu, AL, TY, aq, aint, astr, aWant, isPtr, abnd, ahi, alo, aload, rd, newObj, alit, aparts, astore, amapset, cellsOf, ev, avOf, av1, putF, upd, argF, TK.agg, aapp, asrc, one, aq.abuild, Nat.reduceEqDiff, Nat.reduceAdd, Nat.reduceLT, Nat.reduceLeDiff, Nat.reduceMul, Nat.reduceSub, reduceIte, reduceCtorEq, Int.reduceLE, Int.reduceToNat, Int.reduceLT, Int.reduceEq, Int.reduceAdd, Int.reduceSub, Int.reduceMul, Int.reduceNeg]
  refine hK _ _ ?_; clear hK K
  refine awp_block ?_
  rcases hu with hk1 | hk1 | hk1
  · subst hk1
    simp only [decide_true, Bool.true_and, decide_false, Bool.false_and, Bool.or_false, Int.reduceEq, Bool.not_true, Bool.not_false, Bool.true_or] at hok hnu
    have hyt : Y = a.2 := by rw [← hY, hnu]; simp
    refine awp_seq_k fun K hK => ?_; refine awp_region rfl ?_; simp only [AL, TY, aq, aint, astr, aWant, isPtr, abnd, ahi, alo, aload, rd, newObj, alit, aparts, astore, amapset, cellsOf, ev, avOf, av1, putF, upd, argF, TK.agg, aapp, asrc, one, aq.abuild, Nat.reduceEqDiff, Nat.reduceAdd, Nat.reduceLT, Nat.reduceLeDiff, Nat.reduceMul, Nat.reduceSub, reduceIte, reduceCtorEq, Int.reduceLE, Int.reduceToNat, Int.reduceLT, Int.reduceEq, Int.reduceAdd, Int.reduceSub, Int.reduceMul, Int.reduceNeg]
    try simp only [if_true, AL, TY, aq, aint, astr, aWant, isPtr, abnd, ahi, alo, aload, rd, newObj, alit, aparts, astore, amapset, cellsOf, ev, avOf, av1, putF, upd, argF, TK.agg, aapp, asrc, one, aq.abuild, Nat.reduceEqDiff, Nat.reduceAdd, Nat.reduceLT, Nat.reduceLeDiff, Nat.reduceMul, Nat.reduceSub, reduceIte, reduceCtorEq, Int.reduceLE, Int.reduceToNat, Int.reduceLT, Int.reduceEq, Int.reduceAdd, Int.reduceSub, Int.reduceMul, Int.reduceNeg]
    refine hK _ _ ?_; clear hK K
    refine awp_if true rfl (fun _ => ?_) (fun hc => by cases hc)
    cases ha : a.1 with
    | false =>
      rw [ha] at d2
      refine awp_region rfl ?_
      simp only [f2, f7, d2, hbt, ha, bodyQ, blockQ, aresult, ares, AL, TY, aq, aint, astr, aWant, isPtr, abnd, ahi, alo, aload, rd, newObj, alit, aparts, astore, amapset, cellsOf, ev, avOf, av1, putF, upd, argF, TK.agg, aapp, asrc, one, aq.abuild, Nat.reduceEqDiff, Nat.reduceAdd, Nat.reduceLT, Nat.reduceLeDiff, Nat.reduceMul, Nat.reduceSub, reduceIte, reduceCtorEq, Int.reduceLE, Int.reduceToNat, Int.reduceLT, Int.reduceEq, Int.reduceAdd, Int.reduceSub, Int.reduceMul, Int.reduceNeg]
      exact fin _ _ _ (by rw [← hX]; simp [ha]) hyt (hS5 false) (hK5 false)
    | true =>
      rw [ha] at d2
      by_cases r1 : r.1 = 1
      · have e1 : decide (r.1 = 1) = true := decide_eq_true r1
        refine awp_region rfl ?_
        simp only [f2, f7, d2, hbt, e1, bodyQ, blockQ, aresult, ares, AL, TY, aq, aint, astr, aWant, isPtr, abnd, ahi, alo, aload, rd, newObj, alit, aparts, astore, amapset, cellsOf, ev, avOf, av1, putF, upd, argF, TK.agg, aapp, asrc, one, aq.abuild, Nat.reduceEqDiff, Nat.reduceAdd, Nat.reduceLT, Nat.reduceLeDiff, Nat.reduceMul, Nat.reduceSub, reduceIte, reduceCtorEq, Int.reduceLE, Int.reduceToNat, Int.reduceLT, Int.reduceEq, Int.reduceAdd, Int.reduceSub, Int.reduceMul, Int.reduceNeg]
        exact fin _ _ _ (by rw [← hX, ha, hok, e1]; rfl) hyt (hS5 true) (hK5 true)
      · have e1 : decide (r.1 = 1) = false := decide_eq_false r1
        refine awp_region rfl ?_
        simp only [f2, f7, d2, hbt, e1, bodyQ, blockQ, aresult, ares, AL, TY, aq, aint, astr, aWant, isPtr, abnd, ahi, alo, aload, rd, newObj, alit, aparts, astore, amapset, cellsOf, ev, avOf, av1, putF, upd, argF, TK.agg, aapp, asrc, one, aq.abuild, Nat.reduceEqDiff, Nat.reduceAdd, Nat.reduceLT, Nat.reduceLeDiff, Nat.reduceMul, Nat.reduceSub, reduceIte, reduceCtorEq, Int.reduceLE, Int.reduceToNat, Int.reduceLT, Int.reduceEq, Int.reduceAdd, Int.reduceSub, Int.reduceMul, Int.reduceNeg]
        exact fin _ _ _ (by rw [← hX, ha, hok, e1]; simp) hyt (hS5 (decide (r.1 = 2))) (hK5 _)
  · subst hk1
    simp only [decide_true, Bool.true_and, decide_false, Bool.false_and, Bool.or_false, Bool.false_or, Int.reduceEq, Bool.not_true, Bool.not_false, Bool.true_or] at hok hnu
    have hyt : Y = a.2 := by rw [← hY, hnu]; simp
    refine awp_seq_k fun K hK => ?_; refine awp_region rfl ?_; simp only [AL, TY, aq, aint, astr, aWant, isPtr, abnd, ahi, alo, aload, rd, newObj, alit, aparts, astore, amapset, cellsOf, ev, avOf, av1, putF, upd, argF, TK.agg, aapp, asrc, one, aq.abuild, Nat.reduceEqDiff, Nat.reduceAdd, Nat.reduceLT, Nat.reduceLeDiff, Nat.reduceMul, Nat.reduceSub, reduceIte, reduceCtorEq, Int.reduceLE, Int.reduceToNat, Int.reduceLT, Int.reduceEq, Int.reduceAdd, Int.reduceSub, Int.reduceMul, Int.reduceNeg]
    refine hK _ _ ?_; clear hK K
    refine awp_if false rfl (fun hc => by cases hc) (fun _ => ?_)
    refine awp_seq_k fun K hK => ?_; refine awp_region rfl ?_; simp only [AL, TY, aq, aint, astr, aWant, isPtr, abnd, ahi, alo, aload, rd, newObj, alit, aparts, astore, amapset, cellsOf, ev, avOf, av1, putF, upd, argF, TK.agg, aapp, asrc, one, aq.abuild, Nat.reduceEqDiff, Nat.reduceAdd, Nat.reduceLT, Nat.reduceLeDiff, Nat.reduceMul, Nat.reduceSub, reduceIte, reduceCtorEq, Int.reduceLE, Int.reduceToNat, Int.reduceLT, Int.reduceEq, Int.reduceAdd, Int.reduceSub, Int.reduceMul, Int.reduceNeg]
    refine hK _ _ ?_; clear hK K
    refine awp_if true rfl (fun _ => ?_) (fun hc => by cases hc)
    cases ha : a.1 with
    | false =>
      rw [ha] at d2
      refine awp_region rfl ?_
      simp only [f2, f7, d2, hbt, ha, bodyQ, blockQ, aresult, ares, AL, TY, aq, aint, astr, aWant, isPtr, abnd, ahi, alo, aload, rd, newObj, alit, aparts, astore, amapset, cellsOf, ev, avOf, av1, putF, upd, argF, TK.agg, aapp, asrc, one, aq.abuild, Nat.reduceEqDiff, Nat.reduceAdd, Nat.reduceLT, Nat.reduceLeDiff, Nat.reduceMul, Nat.reduceSub, reduceIte, reduceCtorEq, Int.reduceLE, Int.reduceToNat, Int.reduceLT, Int.reduceEq, Int.reduceAdd, Int.reduceSub, Int.reduceMul, Int.reduceNeg]
      exact fin _ _ _ (by rw [← hX]; simp [ha]) hyt (hS5 false) (hK5 false)
    | true =>
      rw [ha] at d2
      refine awp_region rfl ?_
      simp only [f2, f7, d2, hbt, bodyQ, blockQ, aresult, ares, AL, TY, aq, aint, astr, aWant, isPtr, abnd, ahi, alo, aload, rd, newObj, alit, aparts, astore, amapset, cellsOf, ev, avOf, av1, putF, upd, argF, TK.agg, aapp, asrc, one, aq.abuild, Nat.reduceEqDiff, Nat.reduceAdd, Nat.reduceLT, Nat.reduceLeDiff, Nat.reduceMul, Nat.reduceSub, reduceIte, reduceCtorEq, Int.reduceLE, Int.reduceToNat, Int.reduceLT, Int.reduceEq, Int.reduceAdd, Int.reduceSub, Int.reduceMul, Int.reduceNeg]
      exact fin _ _ _ (by rw [← hX, ha, hok]; simp) hyt (hS5 (decide (r.1 = 3))) (hK5 _)
  · subst hk1
    simp only [decide_true, Bool.true_and, decide_false, Bool.false_and, Bool.or_false, Bool.false_or, Int.reduceEq, Bool.not_true, Bool.not_false] at hok hnu
    refine awp_seq_k fun K hK => ?_; refine awp_region rfl ?_; simp only [AL, TY, aq, aint, astr, aWant, isPtr, abnd, ahi, alo, aload, rd, newObj, alit, aparts, astore, amapset, cellsOf, ev, avOf, av1, putF, upd, argF, TK.agg, aapp, asrc, one, aq.abuild, Nat.reduceEqDiff, Nat.reduceAdd, Nat.reduceLT, Nat.reduceLeDiff, Nat.reduceMul, Nat.reduceSub, reduceIte, reduceCtorEq, Int.reduceLE, Int.reduceToNat, Int.reduceLT, Int.reduceEq, Int.reduceAdd, Int.reduceSub, Int.reduceMul, Int.reduceNeg]
    refine hK _ _ ?_; clear hK K
    refine awp_if false rfl (fun hc => by cases hc) (fun _ => ?_)
    refine awp_seq_k fun K hK => ?_; refine awp_region rfl ?_; simp only [AL, TY, aq, aint, astr, aWant, isPtr, abnd, ahi, alo, aload, rd, newObj, alit, aparts, astore, amapset, cellsOf, ev, avOf, av1, putF, upd, argF, TK.agg, aapp, asrc, one, aq.abuild, Nat.reduceEqDiff, Nat.reduceAdd, Nat.reduceLT, Nat.reduceLeDiff, Nat.reduceMul, Nat.reduceSub, reduceIte, reduceCtorEq, Int.reduceLE, Int.reduceToNat, Int.reduceLT, Int.reduceEq, Int.reduceAdd, Int.reduceSub, Int.reduceMul, Int.reduceNeg]
    refine hK _ _ ?_; clear hK K
    refine awp_if false rfl (fun hc => by cases hc) (fun _ => ?_)
    refine awp_seq_k fun K hK => ?_; refine awp_region rfl ?_; simp only [AL, TY, aq, aint, astr, aWant, isPtr, abnd, ahi, alo, aload, rd, newObj, alit, aparts, astore, amapset, cellsOf, ev, avOf, av1, putF, upd, argF, TK.agg, aapp, asrc, one, aq.abuild, Nat.reduceEqDiff, Nat.reduceAdd, Nat.reduceLT, Nat.reduceLeDiff, Nat.reduceMul, Nat.reduceSub, reduceIte, reduceCtorEq, Int.reduceLE, Int.reduceToNat, Int.reduceLT, Int.reduceEq, Int.reduceAdd, Int.reduceSub, Int.reduceMul, Int.reduceNeg]
    refine hK _ _ ?_; clear hK K
    refine awp_if true rfl (fun _ => ?_) (fun hc => by cases hc)
    by_cases r4 : r.1 = 4
    · have e4 : decide (r.1 = 4) = true := decide_eq_true r4
      by_cases ri : (i : Int) ≤ r.2
      · have ei : decide ((i : Int) ≤ r.2) = true := decide_eq_true ri
        have hokf : ok = false := by rw [hok, e4, ei]; rfl
        refine awp_seq_k fun K hK => ?_; refine awp_region rfl ?_; simp only [AL, TY, aq, aint, astr, aWant, isPtr, abnd, ahi, alo, aload, rd, newObj, alit, aparts, astore, amapset, cellsOf, ev, avOf, av1, putF, upd, argF, TK.agg, aapp, asrc, one, aq.abuild, Nat.reduceEqDiff, Nat.reduceAdd, Nat.reduceLT, Nat.reduceLeDiff, Nat.reduceMul, Nat.reduceSub, reduceIte, reduceCtorEq, Int.reduceLE, Int.reduceToNat, Int.reduceLT, Int.reduceEq, Int.reduceAdd, Int.reduceSub, Int.reduceMul, Int.reduceNeg]
        simp only [f7, f3, hbt, d3, e4, ei, AL, TY, aq, aint, astr, aWant, isPtr, abnd, ahi, alo, aload, rd, newObj, alit, aparts, astore, amapset, cellsOf, ev, avOf, av1, putF, upd, argF, TK.agg, aapp, asrc, one, aq.abuild, Nat.reduceEqDiff, Nat.reduceAdd, Nat.reduceLT, Nat.reduceLeDiff, Nat.reduceMul, Nat.reduceSub, reduceIte, reduceCtorEq, Int.reduceLE, Int.reduceToNat, Int.reduceLT, Int.reduceEq, Int.reduceAdd, Int.reduceSub, Int.reduceMul, Int.reduceNeg]
        refine hK _ _ ?_; clear hK K
        refine awp_if true rfl (fun _ => ?_) (fun hc => by cases hc)
        refine awp_region rfl ?_
        simp only [f2, d2, bodyQ, blockQ, aresult, ares, AL, TY, aq, aint, astr, aWant, isPtr, abnd, ahi, alo, aload, rd, newObj, alit, aparts, astore, amapset, cellsOf, ev, avOf, av1, putF, upd, argF, TK.agg, aapp, asrc, one, aq.abuild, Nat.reduceEqDiff, Nat.reduceAdd, Nat.reduceLT, Nat.reduceLeDiff, Nat.reduceMul, Nat.reduceSub, reduceIte, reduceCtorEq, Int.reduceLE, Int.reduceToNat, Int.reduceLT, Int.reduceEq, Int.reduceAdd, Int.reduceSub, Int.reduceMul, Int.reduceNeg]
        exact fin _ _ _ (by rw [← hX, hokf, Bool.and_false]) (by rw [← hY, hokf]; simp) (hS5 false) (hK5 _)
      · have ei : decide ((i : Int) ≤ r.2) = false := decide_eq_false ri
        have hokt : ok = true := by rw [hok, e4, ei]; rfl
        obtain ⟨c1, c2⟩ := hcall r4
        obtain ⟨n, hn⟩ := Int.eq_ofNat_of_zero_le c1
        have hnl : n < p.funs.length := by omega
        have hgn := getF (List.getElem?_eq_getElem hnl)
        rw [hn, Int.toNat_natCast, List.getElem?_eq_getElem hnl] at hnu
        simp only at hnu
        generalize p.funs[n] = g at hgn hnu
        simp only [Pg.row] at d4
        refine awp_seq_k fun K hK => ?_; refine awp_region rfl ?_; simp only [AL, TY, aq, aint, astr, aWant, isPtr, abnd, ahi, alo, aload, rd, newObj, alit, aparts, astore, amapset, cellsOf, ev, avOf, av1, putF, upd, argF, TK.agg, aapp, asrc, one, aq.abuild, Nat.reduceEqDiff, Nat.reduceAdd, Nat.reduceLT, Nat.reduceLeDiff, Nat.reduceMul, Nat.reduceSub, reduceIte, reduceCtorEq, Int.reduceLE, Int.reduceToNat, Int.reduceLT, Int.reduceEq, Int.reduceAdd, Int.reduceSub, Int.reduceMul, Int.reduceNeg]
        simp only [f7, f3, hbt, d3, e4, ei, AL, TY, aq, aint, astr, aWant, isPtr, abnd, ahi, alo, aload, rd, newObj, alit, aparts, astore, amapset, cellsOf, ev, avOf, av1, putF, upd, argF, TK.agg, aapp, asrc, one, aq.abuild, Nat.reduceEqDiff, Nat.reduceAdd, Nat.reduceLT, Nat.reduceLeDiff, Nat.reduceMul, Nat.reduceSub, reduceIte, reduceCtorEq, Int.reduceLE, Int.reduceToNat, Int.reduceLT, Int.reduceEq, Int.reduceAdd, Int.reduceSub, Int.reduceMul, Int.reduceNeg]
        refine hK _ _ ?_; clear hK K
        refine awp_if false rfl (fun hc => by cases hc) (fun _ => ?_)
        refine awp_seq_k fun K hK => ?_
        refine awp_region_draw (fun _ => False) [(0, true), (1, true), (2, true), (3, true), (4, true), (5, true), (6, true), (7, true), (8, true), (9, true), (10, true)] draws (by kernel_rfl) rfl ?_
        simp only [emit, markOf, f4, f6, f7, d4, hbt, hbu, hn, hgn, awpL_entry, touch_ptr, touch_ipt, List.length_map, AL, TY, aq, aint, astr, aWant, isPtr, abnd, ahi, alo, aload, rd, newObj, alit, aparts, astore, amapset, cellsOf, ev, avOf, av1, putF, upd, argF, TK.agg, aapp, asrc, one, aq.abuild, Nat.reduceEqDiff, Nat.reduceAdd, Nat.reduceLT, Nat.reduceLeDiff, Nat.reduceMul, Nat.reduceSub, reduceIte, reduceCtorEq, Int.reduceLE, Int.reduceToNat, Int.reduceLT, Int.reduceEq, Int.reduceAdd, Int.reduceSub, Int.reduceMul, Int.reduceNeg]
        refine hK _ _ ?_; clear hK K
        cases hnn : decide ((g.params.length : Int) = uu) with
        | true =>
          refine awp_if false (by simp [upd, ev, hnn]) (fun hc => by cases hc) (fun _ => ?_)
          refine awp_skip ?_
          simp only [thenQ, blockQ, bodyQ, aresult, ares]
          exact fin _ _ _ (by rw [← hX, hokt, Bool.and_true]) (by rw [← hY, hnu, hnn]; simp) same (hk2.mono fun _ h => h.elim)
        | false =>
          refine awp_if true (by simp [upd, ev, hnn]) (fun _ => ?_) (fun hc => by cases hc)
          refine awp_region rfl ?_
          simp only [f5, d5, bodyQ, blockQ, aresult, ares, AL, TY, aq, aint, astr, aWant, isPtr, abnd, ahi, alo, aload, rd, newObj, alit, aparts, astore, amapset, cellsOf, ev, avOf, av1, putF, upd, argF, TK.agg, aapp, asrc, one, aq.abuild, Nat.reduceEqDiff, Nat.reduceAdd, Nat.reduceLT, Nat.reduceLeDiff, Nat.reduceMul, Nat.reduceSub, reduceIte, reduceCtorEq, Int.reduceLE, Int.reduceToNat, Int.reduceLT, Int.reduceEq, Int.reduceAdd, Int.reduceSub, Int.reduceMul, Int.reduceNeg]
          exact fin _ _ _ (by rw [← hX, hokt, Bool.and_true]) (by rw [← hY, hokt, hnu, hnn]; simp) (hS6 false) (hK6 _)
    · have e4 : decide (r.1 = 4) = false := decide_eq_false r4
      have hokf : ok = false := by rw [hok, e4]; rfl
      refine awp_seq_k fun K hK => ?_; refine awp_region rfl ?_; simp only [AL, TY, aq, aint, astr, aWant, isPtr, abnd, ahi, alo, aload, rd, newObj, alit, aparts, astore, amapset, cellsOf, ev, avOf, av1, putF, upd, argF, TK.agg, aapp, asrc, one, aq.abuild, Nat.reduceEqDiff, Nat.reduceAdd, Nat.reduceLT, Nat.reduceLeDiff, Nat.reduceMul, Nat.reduceSub, reduceIte, reduceCtorEq, Int.reduceLE, Int.reduceToNat, Int.reduceLT, Int.reduceEq, Int.reduceAdd, Int.reduceSub, Int.reduceMul, Int.reduceNeg]
      simp only [f7, f3, hbt, d3, e4, AL, TY, aq, aint, astr, aWant, isPtr, abnd, ahi, alo, aload, rd, newObj, alit, aparts, astore, amapset, cellsOf, ev, avOf, av1, putF, upd, argF, TK.agg, aapp, asrc, one, aq.abuild, Nat.reduceEqDiff, Nat.reduceAdd, Nat.reduceLT, Nat.reduceLeDiff, Nat.reduceMul, Nat.reduceSub, reduceIte, reduceCtorEq, Int.reduceLE, Int.reduceToNat, Int.reduceLT, Int.reduceEq, Int.reduceAdd, Int.reduceSub, Int.reduceMul, Int.reduceNeg]
      refine hK _ _ ?_; clear hK K
      refine awp_if true rfl (fun _ => ?_) (fun hc => by cases hc)
      refine awp_region rfl ?_
      simp only [f2, d2, bodyQ, blockQ, aresult, ares, AL, TY, aq, aint, astr, aWant, isPtr, abnd, ahi, alo, aload, rd, newObj, alit, aparts, astore, amapset, cellsOf, ev, avOf, av1, putF, upd, argF, TK.agg, aapp, asrc, one, aq.abuild, Nat.reduceEqDiff, Nat.reduceAdd, Nat.reduceLT, Nat.reduceLeDiff, Nat.reduceMul, Nat.reduceSub, reduceIte, reduceCtorEq, Int.reduceLE, Int.reduceToNat, Int.reduceLT, Int.reduceEq, Int.reduceAdd, Int.reduceSub, Int.reduceMul, Int.reduceNeg]
      exact fin _ _ _ (by rw [← hX, hokf, Bool.and_false]) (by rw [← hY, hokf]; simp) (hS5 false) (hK5 _)
end Go.Proofs.Ytnbokmbjiioooaa
