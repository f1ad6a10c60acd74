/- Chapter 16, the program's: what names are, second part. -/
import Derived.Test.YtnbokmbjiioooaaS16g
set_option linter.unusedSimpArgs false
set_option linter.unusedVariables false
namespace Go.Al
def thK (k : Int) : Nat → List Str → List Th
  | _, [] => []
  | i, s :: l => ⟨s, k, i⟩ :: thK k (i + 1) l
theorem thK_take (k : Int) : ∀ (l : List Str) (i j : Nat) (h : j < l.length), thK k i (l.take (j + 1)) = thK k i (l.take j) ++ [⟨l[j], k, ((i + j : Nat) : Int)⟩]
  | s :: l, i, 0, _ => by simp [thK]
  | s :: l, i, j + 1, h => by
    have := thK_take k l (i + 1) j (by simpa using h)
    rw [List.take_succ_cons, List.take_succ_cons, thK, this, thK]
    simp only [List.cons_append, List.getElem_cons_succ]
    rw [show i + 1 + j = i + (j + 1) by omega]
def stT (l : List Th) : List Th × Bool := l.foldl (fun p t => (addT p.1 t, addB p.1 p.2 t)) ([], true)
theorem stT_app (l : List Th) (t : Th) : stT (l ++ [t]) = (addT (stT l).1 t, addB (stT l).1 (stT l).2 t) := by simp [stT]
def globT (p : Pg) : List Th := thK 2 0 p.vars ++ thK 3 0 (p.arrs.map Ar.name) ++ thK 4 0 (p.funs.map Fu.name)
def locT (f : Fu) : List Th := thK 1 0 (f.params ++ f.locs)
end Go.Al
namespace Go.Proofs.Ytnbokmbjiioooaa
open Go.Al
theorem ladd_con (nm : Str) (n0 : Int) (bm bu b : Nat) (m : List Th) (u : Bool) (H : Hp) (h : addI bm bu b m u H) :
    Con env 47 [.str nm, .int .i64 n0, .ptr 1 bm 0 0, .ptr 1 bu 0 0] H (fun ae H' => ∃ v, ae = .ret v ∧ (v = .tup [] ∧ addI bm bu b (addT m ⟨nm, 1, n0⟩) (addB m u ⟨nm, 1, n0⟩) H' ∧ keeps (fun x => x = bu ∨ x = b) H H')) := by
  obtain ⟨h1, h2, h3⟩ := h
  have n1 : bm ≠ bu := fun e => by rw [e, h2] at h1; simp at h1
  have n2 : bm ≠ b := fun e => by rw [e, h3] at h1; simp at h1
  have n3 : bu ≠ b := fun e => by rw [e, h3] at h2; simp at h2
  refine con_of 19 [] Try.func47 rfl rfl rfl rfl ?_
  have hk : keeps (fun _ => False) H H := keeps.refl _ H
  have k1 := h1
  have k2 := h2
  have k3 := h3
  obtain ⟨r, hr, hr2⟩ := afind_look nm m 0
  cases hl : lookT m nm with
  | some q =>
    rw [hl] at hr2
    obtain ⟨p, rfl, hp⟩ : ∃ p, r = some p ∧ p.2 = thV q.1 q.2 := by
      cases r with
      | none => simp at hr2
      | some p => exact ⟨p, rfl, by simpa using hr2⟩
    refine awp_seq ?_
    refine awp_seq_k fun K hK => ?_; refine awp_region rfl ?_; simp only [AL, TY, aq, aint, astr, aWant, isPtr, abnd, ahi, alo, aload, rd, newObj, alit, aparts, astore, amapset, cellsOf, ev, avOf, av1, putF, upd, argF, TK.agg, aapp, asrc, one, aq.abuild, Nat.reduceEqDiff, Nat.reduceAdd, Nat.reduceLT, Nat.reduceLeDiff, Nat.reduceMul, Nat.reduceSub, reduceIte, reduceCtorEq, Int.reduceLE, Int.reduceToNat, Int.reduceLT, Int.reduceEq, Int.reduceAdd, Int.reduceSub, Int.reduceMul, Int.reduceNeg]
    simp only [k1, k3, hr, hp, thV, Option.getD_some, AL, TY, aq, aint, astr, aWant, isPtr, abnd, ahi, alo, aload, rd, newObj, alit, aparts, astore, amapset, cellsOf, ev, avOf, av1, putF, upd, argF, TK.agg, aapp, asrc, one, aq.abuild, Nat.reduceEqDiff, Nat.reduceAdd, Nat.reduceLT, Nat.reduceLeDiff, Nat.reduceMul, Nat.reduceSub, reduceIte, reduceCtorEq, Int.reduceLE, Int.reduceToNat, Int.reduceLT, Int.reduceEq, Int.reduceAdd, Int.reduceSub, Int.reduceMul, Int.reduceNeg]
    refine awpN_intro fun b6 hb6 => ?_
    simp only [AL, TY, aq, aint, astr, aWant, isPtr, abnd, ahi, alo, aload, rd, newObj, alit, aparts, astore, amapset, cellsOf, ev, avOf, av1, putF, upd, argF, TK.agg, aapp, asrc, one, aq.abuild, Nat.reduceEqDiff, Nat.reduceAdd, Nat.reduceLT, Nat.reduceLeDiff, Nat.reduceMul, Nat.reduceSub, reduceIte, reduceCtorEq, Int.reduceLE, Int.reduceToNat, Int.reduceLT, Int.reduceEq, Int.reduceAdd, Int.reduceSub, Int.reduceMul, Int.reduceNeg]
    refine hK _ _ ?_; clear hK K
    have hH : (upd (upd H b6 (some (.rows 2 [[.int .i64 0, .int .i64 0]]))) b6 (some (.rows 2 [[.int .i64 q.1, .int .i64 q.2]]))) bu = some (.rows 1 [[.bool u]]) := by
      have : bu ≠ b6 := fun e => by rw [e, hb6] at k2; cases k2
      simp only [upd, if_neg this]; exact k2
    have hK2 : keeps (fun _ => False) H (upd (upd H b6 (some (.rows 2 [[.int .i64 0, .int .i64 0]]))) b6 (some (.rows 2 [[.int .i64 q.1, .int .i64 q.2]]))) := by
      intro b' o' _ hb'
      have h5 := hk b' o' (fun h => h) hb'
      have : b' ≠ b6 := fun e => by rw [e, hb6] at h5; cases h5
      simp only [upd, if_neg this]; exact h5
    generalize (upd (upd H b6 (some (.rows 2 [[.int .i64 0, .int .i64 0]]))) b6 (some (.rows 2 [[.int .i64 q.1, .int .i64 q.2]]))) = H2 at hH hK2 ⊢
    refine awp_seq_k fun K hK => ?_; refine awp_region rfl ?_; simp only [AL, TY, aq, aint, astr, aWant, isPtr, abnd, ahi, alo, aload, rd, newObj, alit, aparts, astore, amapset, cellsOf, ev, avOf, av1, putF, upd, argF, TK.agg, aapp, asrc, one, aq.abuild, Nat.reduceEqDiff, Nat.reduceAdd, Nat.reduceLT, Nat.reduceLeDiff, Nat.reduceMul, Nat.reduceSub, reduceIte, reduceCtorEq, Int.reduceLE, Int.reduceToNat, Int.reduceLT, Int.reduceEq, Int.reduceAdd, Int.reduceSub, Int.reduceMul, Int.reduceNeg]
    refine hK _ _ ?_; clear hK K
    refine awp_if true rfl (fun _ => ?_) (fun hc => by cases hc)
    refine awp_seq_k fun K hK => ?_; refine awp_region rfl ?_; simp only [AL, TY, aq, aint, astr, aWant, isPtr, abnd, ahi, alo, aload, rd, newObj, alit, aparts, astore, amapset, cellsOf, ev, avOf, av1, putF, upd, argF, TK.agg, aapp, asrc, one, aq.abuild, Nat.reduceEqDiff, Nat.reduceAdd, Nat.reduceLT, Nat.reduceLeDiff, Nat.reduceMul, Nat.reduceSub, reduceIte, reduceCtorEq, Int.reduceLE, Int.reduceToNat, Int.reduceLT, Int.reduceEq, Int.reduceAdd, Int.reduceSub, Int.reduceMul, Int.reduceNeg]
    simp only [hH, AL, TY, aq, aint, astr, aWant, isPtr, abnd, ahi, alo, aload, rd, newObj, alit, aparts, astore, amapset, cellsOf, ev, avOf, av1, putF, upd, argF, TK.agg, aapp, asrc, one, aq.abuild, Nat.reduceEqDiff, Nat.reduceAdd, Nat.reduceLT, Nat.reduceLeDiff, Nat.reduceMul, Nat.reduceSub, reduceIte, reduceCtorEq, Int.reduceLE, Int.reduceToNat, Int.reduceLT, Int.reduceEq, Int.reduceAdd, Int.reduceSub, Int.reduceMul, Int.reduceNeg]
    refine hK _ _ ?_; clear hK K
    refine awp_ret ?_
    simp only [thenQ, blockQ, bodyQ, aresult, ares, argF, AL, TY, aq, aint, astr, aWant, isPtr, abnd, ahi, alo, aload, rd, newObj, alit, aparts, astore, amapset, cellsOf, ev, avOf, av1, putF, upd, argF, TK.agg, aapp, asrc, one, aq.abuild, Nat.reduceEqDiff, Nat.reduceAdd, Nat.reduceLT, Nat.reduceLeDiff, Nat.reduceMul, Nat.reduceSub, reduceIte, reduceCtorEq, Int.reduceLE, Int.reduceToNat, Int.reduceLT, Int.reduceEq, Int.reduceAdd, Int.reduceSub, Int.reduceMul, Int.reduceNeg]
    refine Gives.whole ⟨rfl, ⟨?_, upd_same _ _ _ |>.trans (by simp only [addB, hl, Option.isSome_some, if_true]), ?_⟩, fun b' o' hm hb' => ?_⟩
    · simp only [upd, if_neg n1]; exact hK2 _ _ (fun h => h) h1
    · have : b ≠ bu := fun e => n3 e.symm
      simp only [upd, if_neg this, addT, hl, Option.isSome_some, if_true]; exact hK2 _ _ (fun h => h) h3
    · have : b' ≠ bu := fun e => hm (.inl e)
      simp only [upd, if_neg this]; exact hK2 b' o' (fun h => h) hb'
  | none =>
    rw [hl] at hr2
    obtain rfl : r = none := by cases r with | none => rfl | some p => simp at hr2
    refine awp_seq ?_
    refine awp_seq_k fun K hK => ?_; refine awp_region rfl ?_; simp only [AL, TY, aq, aint, astr, aWant, isPtr, abnd, ahi, alo, aload, rd, newObj, alit, aparts, astore, amapset, cellsOf, ev, avOf, av1, putF, upd, argF, TK.agg, aapp, asrc, one, aq.abuild, Nat.reduceEqDiff, Nat.reduceAdd, Nat.reduceLT, Nat.reduceLeDiff, Nat.reduceMul, Nat.reduceSub, reduceIte, reduceCtorEq, Int.reduceLE, Int.reduceToNat, Int.reduceLT, Int.reduceEq, Int.reduceAdd, Int.reduceSub, Int.reduceMul, Int.reduceNeg]
    simp only [k1, k3, hr, Option.getD_none, AL, TY, aq, aint, astr, aWant, isPtr, abnd, ahi, alo, aload, rd, newObj, alit, aparts, astore, amapset, cellsOf, ev, avOf, av1, putF, upd, argF, TK.agg, aapp, asrc, one, aq.abuild, Nat.reduceEqDiff, Nat.reduceAdd, Nat.reduceLT, Nat.reduceLeDiff, Nat.reduceMul, Nat.reduceSub, reduceIte, reduceCtorEq, Int.reduceLE, Int.reduceToNat, Int.reduceLT, Int.reduceEq, Int.reduceAdd, Int.reduceSub, Int.reduceMul, Int.reduceNeg]
    refine awpN_intro fun b6 hb6 => ?_
    simp only [AL, TY, aq, aint, astr, aWant, isPtr, abnd, ahi, alo, aload, rd, newObj, alit, aparts, astore, amapset, cellsOf, ev, avOf, av1, putF, upd, argF, TK.agg, aapp, asrc, one, aq.abuild, Nat.reduceEqDiff, Nat.reduceAdd, Nat.reduceLT, Nat.reduceLeDiff, Nat.reduceMul, Nat.reduceSub, reduceIte, reduceCtorEq, Int.reduceLE, Int.reduceToNat, Int.reduceLT, Int.reduceEq, Int.reduceAdd, Int.reduceSub, Int.reduceMul, Int.reduceNeg]
    refine hK _ _ ?_; clear hK K
    have hK2 : keeps (fun _ => False) H (upd (upd H b6 (some (.rows 2 [[.int .i64 0, .int .i64 0]]))) b6 (some (.rows 2 [[.int .i64 0, .int .i64 0]]))) := by
      intro b' o' _ hb'
      have : b' ≠ b6 := fun e => by rw [e, hb6] at hb'; cases hb'
      simp only [upd, if_neg this]; exact hb'
    generalize (upd (upd H b6 (some (.rows 2 [[.int .i64 0, .int .i64 0]]))) b6 (some (.rows 2 [[.int .i64 0, .int .i64 0]]))) = H2 at hK2 ⊢
    have j1 := hK2 _ _ (fun h => h) k1
    have j2 := hK2 _ _ (fun h => h) k2
    have j3 := hK2 _ _ (fun h => h) k3
    refine awp_seq_k fun K hK => ?_; refine awp_region rfl ?_; simp only [AL, TY, aq, aint, astr, aWant, isPtr, abnd, ahi, alo, aload, rd, newObj, alit, aparts, astore, amapset, cellsOf, ev, avOf, av1, putF, upd, argF, TK.agg, aapp, asrc, one, aq.abuild, Nat.reduceEqDiff, Nat.reduceAdd, Nat.reduceLT, Nat.reduceLeDiff, Nat.reduceMul, Nat.reduceSub, reduceIte, reduceCtorEq, Int.reduceLE, Int.reduceToNat, Int.reduceLT, Int.reduceEq, Int.reduceAdd, Int.reduceSub, Int.reduceMul, Int.reduceNeg]
    refine hK _ _ ?_; clear hK K
    refine awp_if false rfl (fun hc => by cases hc) (fun _ => ?_)
    refine awp_skip ?_; simp only [thenQ, blockQ]
    refine awp_region rfl ?_
    have hput : aput (m.map ent) (.str nm) (.agg [.int .i64 1, .int .i64 n0]) = some ((addT m ⟨nm, 1, n0⟩).map ent) := by
      simp only [aput, hr, addT, hl, Option.isSome_none, Bool.false_eq_true, if_false, List.map_append, List.map_cons, List.map_nil, ent, thV]
    simp only [j1, j3, hput, AL, TY, aq, aint, astr, aWant, isPtr, abnd, ahi, alo, aload, rd, newObj, alit, aparts, astore, amapset, cellsOf, ev, avOf, av1, putF, upd, argF, TK.agg, aapp, asrc, one, aq.abuild, Nat.reduceEqDiff, Nat.reduceAdd, Nat.reduceLT, Nat.reduceLeDiff, Nat.reduceMul, Nat.reduceSub, reduceIte, reduceCtorEq, Int.reduceLE, Int.reduceToNat, Int.reduceLT, Int.reduceEq, Int.reduceAdd, Int.reduceSub, Int.reduceMul, Int.reduceNeg]
    simp only [bodyQ, aresult, ares]
    refine Gives.whole ⟨rfl, ⟨?_, ?_, upd_same _ _ _⟩, fun b' o' hm hb' => ?_⟩
    · simp only [upd, if_neg n2]; exact j1
    · simp only [upd, if_neg n3]
      rw [j2]; simp only [addB, hl, Option.isSome_none, Bool.false_eq_true, if_false]
    · have : b' ≠ b := fun e => hm (.inr e)
      simp only [upd, if_neg this]; exact hK2 b' o' (fun h => h) (hk b' o' (fun h => h) hb')

theorem addI_ne {bm bu b : Nat} {m : List Th} {u : Bool} {H : Hp} (h : addI bm bu b m u H) {x sz : Nat} {r : List (List AV)} (hx : H x = some (.rows sz r)) (hs : sz ≠ 1) : ¬ (x = bu ∨ x = b) := by
  obtain ⟨h1, h2, h3⟩ := h
  rintro (e | e)
  · rw [e, h2] at hx
    simp only [Option.some.injEq, AObj.rows.injEq] at hx
    exact hs hx.1.symm
  · rw [e, h3] at hx; cases hx
theorem addI_new {bm bu b : Nat} {m : List Th} {u : Bool} {H : Hp} (h : addI bm bu b m u H) {x : Nat} (hx : H x = none) (o : Option AObj) : addI bm bu b m u (upd H x o) := by
  obtain ⟨h1, h2, h3⟩ := h
  refine ⟨?_, ?_, ?_⟩
  · have : bm ≠ x := fun e => by rw [e, hx] at h1; cases h1
    simp only [upd, if_neg this]; exact h1
  · have : bu ≠ x := fun e => by rw [e, hx] at h2; cases h2
    simp only [upd, if_neg this]; exact h2
  · have : b ≠ x := fun e => by rw [e, hx] at h3; cases h3
    simp only [upd, if_neg this]; exact h3
theorem addI_set {bm bu b : Nat} {m : List Th} {u : Bool} {H : Hp} (h : addI bm bu b m u H) {x : Nat} (hx : H x = none) (o o' : Option AObj) : addI bm bu b m u (upd (upd H x o) x o') := by
  obtain ⟨h1, h2, h3⟩ := h
  refine ⟨?_, ?_, ?_⟩
  · have : bm ≠ x := fun e => by rw [e, hx] at h1; cases h1
    simp only [upd, if_neg this]; exact h1
  · have : bu ≠ x := fun e => by rw [e, hx] at h2; cases h2
    simp only [upd, if_neg this]; exact h2
  · have : b ≠ x := fun e => by rw [e, hx] at h3; cases h3
    simp only [upd, if_neg this]; exact h3
set_option maxHeartbeats 2000000 in
theorem globals_con (p : Pg) (hp : p.few) : Con env 27 [p.av] emp (fun ae H' => ∃ v, ae = .ret v ∧ ∃ b, v = .tup [.mp b, .bool (stT (globT p)).2] ∧ H' b = some (.amap ((stT (globT p)).1.map ent))) := by
  have gv := hp.v
  have ga := hp.a
  have gf := hp.f
  have hG : globT p = thK 2 0 p.vars ++ thK 3 0 (p.arrs.map Ar.name) ++ thK 4 0 (p.funs.map Fu.name) := rfl
  generalize globT p = G at hG ⊢
  obtain ⟨vs, aa, fs⟩ := p
  simp only at gv ga gf hG
  refine con_of 61 [.tmp 2, .tmp 3] Try.func27 rfl rfl rfl rfl ?_
  simp only [Pg.av, Pg.row]
  refine awp_cutK (fun fr H => ∃ b1, fr 1 = .ptr 3 b1 0 0 ∧ H b1 = some (.rows 3 [[.isl 1 (vs.map strRow), .isl 2 (aa.map Ar.row), .isl 5 (fs.map Fu.row)]])) (fun K hK => ?_) ?_
  · refine awp_region rfl ?_; simp only [AL, TY, aq, aint, astr, aWant, isPtr, abnd, ahi, alo, aload, rd, newObj, alit, aparts, astore, amapset, cellsOf, ev, avOf, av1, putF, upd, argF, TK.agg, aapp, asrc, one, aq.abuild, Nat.reduceEqDiff, Nat.reduceAdd, Nat.reduceLT, Nat.reduceLeDiff, Nat.reduceMul, Nat.reduceSub, reduceIte, reduceCtorEq, Int.reduceLE, Int.reduceToNat, Int.reduceLT, Int.reduceEq, Int.reduceAdd, Int.reduceSub, Int.reduceMul, Int.reduceNeg]
    refine awpN_intro fun b1 hb1 => ?_
    simp only [AL, TY, aq, aint, astr, aWant, isPtr, abnd, ahi, alo, aload, rd, newObj, alit, aparts, astore, amapset, cellsOf, ev, avOf, av1, putF, upd, argF, TK.agg, aapp, asrc, one, aq.abuild, Nat.reduceEqDiff, Nat.reduceAdd, Nat.reduceLT, Nat.reduceLeDiff, Nat.reduceMul, Nat.reduceSub, reduceIte, reduceCtorEq, Int.reduceLE, Int.reduceToNat, Int.reduceLT, Int.reduceEq, Int.reduceAdd, Int.reduceSub, Int.reduceMul, Int.reduceNeg]
    exact hK _ _ ⟨b1, rfl, upd_same _ _ _⟩
  rintro fr H ⟨b1, f1, hb⟩
  refine awp_cutK (fun fr H => ∃ b bm bu, fr 1 = .ptr 3 b1 0 0 ∧ H b1 = some (.rows 3 [[.isl 1 (vs.map strRow), .isl 2 (aa.map Ar.row), .isl 5 (fs.map Fu.row)]]) ∧ fr 4 = .ptr 1 bm 0 0 ∧ fr 5 = .ptr 1 bu 0 0 ∧ addI bm bu b [] true H) (fun K hK => ?_) ?_
  · refine awp_region rfl ?_; simp only [AL, TY, aq, aint, astr, aWant, isPtr, abnd, ahi, alo, aload, rd, newObj, alit, aparts, astore, amapset, cellsOf, ev, avOf, av1, putF, upd, argF, TK.agg, aapp, asrc, one, aq.abuild, Nat.reduceEqDiff, Nat.reduceAdd, Nat.reduceLT, Nat.reduceLeDiff, Nat.reduceMul, Nat.reduceSub, reduceIte, reduceCtorEq, Int.reduceLE, Int.reduceToNat, Int.reduceLT, Int.reduceEq, Int.reduceAdd, Int.reduceSub, Int.reduceMul, Int.reduceNeg]
    refine awpN_intro fun b hb0 => ?_
    simp only [AL, TY, aq, aint, astr, aWant, isPtr, abnd, ahi, alo, aload, rd, newObj, alit, aparts, astore, amapset, cellsOf, ev, avOf, av1, putF, upd, argF, TK.agg, aapp, asrc, one, aq.abuild, Nat.reduceEqDiff, Nat.reduceAdd, Nat.reduceLT, Nat.reduceLeDiff, Nat.reduceMul, Nat.reduceSub, reduceIte, reduceCtorEq, Int.reduceLE, Int.reduceToNat, Int.reduceLT, Int.reduceEq, Int.reduceAdd, Int.reduceSub, Int.reduceMul, Int.reduceNeg]
    refine awpN_intro fun bm hbm => ?_
    simp only [AL, TY, aq, aint, astr, aWant, isPtr, abnd, ahi, alo, aload, rd, newObj, alit, aparts, astore, amapset, cellsOf, ev, avOf, av1, putF, upd, argF, TK.agg, aapp, asrc, one, aq.abuild, Nat.reduceEqDiff, Nat.reduceAdd, Nat.reduceLT, Nat.reduceLeDiff, Nat.reduceMul, Nat.reduceSub, reduceIte, reduceCtorEq, Int.reduceLE, Int.reduceToNat, Int.reduceLT, Int.reduceEq, Int.reduceAdd, Int.reduceSub, Int.reduceMul, Int.reduceNeg]
    refine awpN_intro fun bu hbu => ?_
    simp only [AL, TY, aq, aint, astr, aWant, isPtr, abnd, ahi, alo, aload, rd, newObj, alit, aparts, astore, amapset, cellsOf, ev, avOf, av1, putF, upd, argF, TK.agg, aapp, asrc, one, aq.abuild, Nat.reduceEqDiff, Nat.reduceAdd, Nat.reduceLT, Nat.reduceLeDiff, Nat.reduceMul, Nat.reduceSub, reduceIte, reduceCtorEq, Int.reduceLE, Int.reduceToNat, Int.reduceLT, Int.reduceEq, Int.reduceAdd, Int.reduceSub, Int.reduceMul, Int.reduceNeg]
    have e1 : bm ≠ b := fun e => by rw [e, upd_same] at hbm; cases hbm
    have e2 : bu ≠ b := fun e => by
      rw [e] at hbu
      have : b ≠ bm := fun e => e1 e.symm
      simp only [upd, if_neg this, if_true] at hbu; cases hbu
    have e3 : bu ≠ bm := fun e => by rw [e, upd_same] at hbu; cases hbu
    have e4 : bm ≠ bu := fun e => e3 e.symm
    have q0 : b1 ≠ b := fun e => by rw [e, hb0] at hb; cases hb
    have q1 : b1 ≠ bm := fun e => by
      rw [← e] at hbm
      simp only [upd, if_neg q0] at hbm
      rw [hb] at hbm; cases hbm
    have q2 : b1 ≠ bu := fun e => by
      rw [← e] at hbu
      simp only [upd, if_neg q0, if_neg q1] at hbu
      rw [hb] at hbu; cases hbu
    have e5 : b ≠ bm := fun e => e1 e.symm
    have e6 : b ≠ bu := fun e => e2 e.symm
    simp only [upd, e1, e2, e3, e4, e5, e6, reduceIte, AL, TY, aq, aint, astr, aWant, isPtr, abnd, ahi, alo, aload, rd, newObj, alit, aparts, astore, amapset, cellsOf, ev, avOf, av1, putF, upd, argF, TK.agg, aapp, asrc, one, aq.abuild, Nat.reduceEqDiff, Nat.reduceAdd, Nat.reduceLT, Nat.reduceLeDiff, Nat.reduceMul, Nat.reduceSub, reduceIte, reduceCtorEq, Int.reduceLE, Int.reduceToNat, Int.reduceLT, Int.reduceEq, Int.reduceAdd, Int.reduceSub, Int.reduceMul, Int.reduceNeg]
    refine hK _ _ ⟨b, bm, bu, f1, ?_, rfl, rfl, ?_, ?_, ?_⟩
    · simp only [upd, if_neg q0, if_neg q1, if_neg q2]; exact hb
    · simp [upd, e4]
    · simp [upd]
    · simp [upd, e5, e6]
  rintro fr H ⟨b, bm, bu, f1, hb, f4, f5, hI⟩
  refine awp_seq_k fun K hK => ?_; refine awp_region rfl ?_; simp only [AL, TY, aq, aint, astr, aWant, isPtr, abnd, ahi, alo, aload, rd, newObj, alit, aparts, astore, amapset, cellsOf, ev, avOf, av1, putF, upd, argF, TK.agg, aapp, asrc, one, aq.abuild, Nat.reduceEqDiff, Nat.reduceAdd, Nat.reduceLT, Nat.reduceLeDiff, Nat.reduceMul, Nat.reduceSub, reduceIte, reduceCtorEq, Int.reduceLE, Int.reduceToNat, Int.reduceLT, Int.reduceEq, Int.reduceAdd, Int.reduceSub, Int.reduceMul, Int.reduceNeg]
  simp only [f4, f5, AL, TY, aq, aint, astr, aWant, isPtr, abnd, ahi, alo, aload, rd, newObj, alit, aparts, astore, amapset, cellsOf, ev, avOf, av1, putF, upd, argF, TK.agg, aapp, asrc, one, aq.abuild, Nat.reduceEqDiff, Nat.reduceAdd, Nat.reduceLT, Nat.reduceLeDiff, Nat.reduceMul, Nat.reduceSub, reduceIte, reduceCtorEq, Int.reduceLE, Int.reduceToNat, Int.reduceLT, Int.reduceEq, Int.reduceAdd, Int.reduceSub, Int.reduceMul, Int.reduceNeg]
  refine hK _ _ ?_; clear hK K
  refine awp_cutK (fun fr H => fr 1 = .ptr 3 b1 0 0 ∧ fr 4 = .ptr 1 bm 0 0 ∧ fr 5 = .ptr 1 bu 0 0 ∧ fr 6 = .fn (.func 46) [] [.ptr 1 bm 0 0, .ptr 1 bu 0 0] ∧ H b1 = some (.rows 3 [[.isl 1 (vs.map strRow), .isl 2 (aa.map Ar.row), .isl 5 (fs.map Fu.row)]]) ∧ addI bm bu b (stT (thK 2 0 (vs))).1 (stT (thK 2 0 (vs))).2 H) (fun K hK => ?_) ?_
  · refine awp_seq_k fun K hK => ?_; refine awp_region rfl ?_; simp only [AL, TY, aq, aint, astr, aWant, isPtr, abnd, ahi, alo, aload, rd, newObj, alit, aparts, astore, amapset, cellsOf, ev, avOf, av1, putF, upd, argF, TK.agg, aapp, asrc, one, aq.abuild, Nat.reduceEqDiff, Nat.reduceAdd, Nat.reduceLT, Nat.reduceLeDiff, Nat.reduceMul, Nat.reduceSub, reduceIte, reduceCtorEq, Int.reduceLE, Int.reduceToNat, Int.reduceLT, Int.reduceEq, Int.reduceAdd, Int.reduceSub, Int.reduceMul, Int.reduceNeg]
    simp only [f1, hb, List.length_map, AL, TY, aq, aint, astr, aWant, isPtr, abnd, ahi, alo, aload, rd, newObj, alit, aparts, astore, amapset, cellsOf, ev, avOf, av1, putF, upd, argF, TK.agg, aapp, asrc, one, aq.abuild, Nat.reduceEqDiff, Nat.reduceAdd, Nat.reduceLT, Nat.reduceLeDiff, Nat.reduceMul, Nat.reduceSub, reduceIte, reduceCtorEq, Int.reduceLE, Int.reduceToNat, Int.reduceLT, Int.reduceEq, Int.reduceAdd, Int.reduceSub, Int.reduceMul, Int.reduceNeg]
    refine hK _ _ ?_; clear hK K
    refine awp_block ?_
    refine awp_loopK (fun mm fr H => ∃ k : Nat, mm = vs.length - k ∧ k ≤ vs.length ∧ fr 18 = .int .i64 k ∧ fr 16 = .isl 1 (vs.map strRow) ∧ fr 17 = .int .i64 vs.length ∧ fr 1 = .ptr 3 b1 0 0 ∧ fr 4 = .ptr 1 bm 0 0 ∧ fr 5 = .ptr 1 bu 0 0 ∧ fr 6 = .fn (.func 46) [] [.ptr 1 bm 0 0, .ptr 1 bu 0 0] ∧ H b1 = some (.rows 3 [[.isl 1 (vs.map strRow), .isl 2 (aa.map Ar.row), .isl 5 (fs.map Fu.row)]]) ∧ addI bm bu b (stT (thK 2 0 (vs.take k))).1 (stT (thK 2 0 (vs.take k))).2 H) (vs.length) ⟨0, rfl, Nat.zero_le _, rfl, rfl, rfl, f1, f4, f5, rfl, hb, hI⟩ ?_
    rintro mm fr H ⟨k, rfl, hkk, hik, fS, fL, f1, f4, f5, f6, hb, hI⟩ K2 hK2
    refine awp_seq_k fun K hK => ?_; refine awp_region rfl ?_; simp only [AL, TY, aq, aint, astr, aWant, isPtr, abnd, ahi, alo, aload, rd, newObj, alit, aparts, astore, amapset, cellsOf, ev, avOf, av1, putF, upd, argF, TK.agg, aapp, asrc, one, aq.abuild, Nat.reduceEqDiff, Nat.reduceAdd, Nat.reduceLT, Nat.reduceLeDiff, Nat.reduceMul, Nat.reduceSub, reduceIte, reduceCtorEq, Int.reduceLE, Int.reduceToNat, Int.reduceLT, Int.reduceEq, Int.reduceAdd, Int.reduceSub, Int.reduceMul, Int.reduceNeg]
    simp only [hik, fL,List.length_map, AL, TY, aq, aint, astr, aWant, isPtr, abnd, ahi, alo, aload, rd, newObj, alit, aparts, astore, amapset, cellsOf, ev, avOf, av1, putF, upd, argF, TK.agg, aapp, asrc, one, aq.abuild, Nat.reduceEqDiff, Nat.reduceAdd, Nat.reduceLT, Nat.reduceLeDiff, Nat.reduceMul, Nat.reduceSub, reduceIte, reduceCtorEq, Int.reduceLE, Int.reduceToNat, Int.reduceLT, Int.reduceEq, Int.reduceAdd, Int.reduceSub, Int.reduceMul, Int.reduceNeg]
    refine hK _ _ ?_; clear hK K
    refine awp_seq ?_
    refine awp_if _ rfl (fun hc => ?_) (fun hc => ?_)
    · have hltk : k < vs.length := by have := of_decide_eq_true hc; omega
      clear hc
      refine awp_skip ?_; simp only [thenQ, blockQ]
      refine awp_seq ?_
      refine awp_block ?_
      have hg := getN (List.getElem?_eq_getElem hltk)
      have htk := thK_take 2 vs 0 k hltk
      rw [Nat.zero_add] at htk
      generalize vs[k] = s at hg htk
      refine awp_seq_k fun K hK => ?_; refine awp_region rfl ?_; simp only [AL, TY, aq, aint, astr, aWant, isPtr, abnd, ahi, alo, aload, rd, newObj, alit, aparts, astore, amapset, cellsOf, ev, avOf, av1, putF, upd, argF, TK.agg, aapp, asrc, one, aq.abuild, Nat.reduceEqDiff, Nat.reduceAdd, Nat.reduceLT, Nat.reduceLeDiff, Nat.reduceMul, Nat.reduceSub, reduceIte, reduceCtorEq, Int.reduceLE, Int.reduceToNat, Int.reduceLT, Int.reduceEq, Int.reduceAdd, Int.reduceSub, Int.reduceMul, Int.reduceNeg]
      simp only [hik, fS, hg, AL, TY, aq, aint, astr, aWant, isPtr, abnd, ahi, alo, aload, rd, newObj, alit, aparts, astore, amapset, cellsOf, ev, avOf, av1, putF, upd, argF, TK.agg, aapp, asrc, one, aq.abuild, Nat.reduceEqDiff, Nat.reduceAdd, Nat.reduceLT, Nat.reduceLeDiff, Nat.reduceMul, Nat.reduceSub, reduceIte, reduceCtorEq, Int.reduceLE, Int.reduceToNat, Int.reduceLT, Int.reduceEq, Int.reduceAdd, Int.reduceSub, Int.reduceMul, Int.reduceNeg]
      refine hK _ _ ?_; clear hK K
      refine awp_region rfl ?_
      simp only [f6, AL, TY, aq, aint, astr, aWant, isPtr, abnd, ahi, alo, aload, rd, newObj, alit, aparts, astore, amapset, cellsOf, ev, avOf, av1, putF, upd, argF, TK.agg, aapp, asrc, one, aq.abuild, Nat.reduceEqDiff, Nat.reduceAdd, Nat.reduceLT, Nat.reduceLeDiff, Nat.reduceMul, Nat.reduceSub, reduceIte, reduceCtorEq, Int.reduceLE, Int.reduceToNat, Int.reduceLT, Int.reduceEq, Int.reduceAdd, Int.reduceSub, Int.reduceMul, Int.reduceNeg]
      refine awpC_whole (gadd_con ⟨s, 2, k⟩ bm bu b _ _ _ hI) (SubL.refl _) (fun _ => trivial) fun v H' ⟨hv, hI', hkp⟩ => ?_
      subst hv
      simp only [thenQ, blockQ, AL, TY, aq, aint, astr, aWant, isPtr, abnd, ahi, alo, aload, rd, newObj, alit, aparts, astore, amapset, cellsOf, ev, avOf, av1, putF, upd, argF, TK.agg, aapp, asrc, one, aq.abuild, Nat.reduceEqDiff, Nat.reduceAdd, Nat.reduceLT, Nat.reduceLeDiff, Nat.reduceMul, Nat.reduceSub, reduceIte, reduceCtorEq, Int.reduceLE, Int.reduceToNat, Int.reduceLT, Int.reduceEq, Int.reduceAdd, Int.reduceSub, Int.reduceMul, Int.reduceNeg]
      refine awp_region rfl ?_; simp only [AL, TY, aq, aint, astr, aWant, isPtr, abnd, ahi, alo, aload, rd, newObj, alit, aparts, astore, amapset, cellsOf, ev, avOf, av1, putF, upd, argF, TK.agg, aapp, asrc, one, aq.abuild, Nat.reduceEqDiff, Nat.reduceAdd, Nat.reduceLT, Nat.reduceLeDiff, Nat.reduceMul, Nat.reduceSub, reduceIte, reduceCtorEq, Int.reduceLE, Int.reduceToNat, Int.reduceLT, Int.reduceEq, Int.reduceAdd, Int.reduceSub, Int.reduceMul, Int.reduceNeg]
      simp only [hik, thenQ, blockQ, AL, TY, aq, aint, astr, aWant, isPtr, abnd, ahi, alo, aload, rd, newObj, alit, aparts, astore, amapset, cellsOf, ev, avOf, av1, putF, upd, argF, TK.agg, aapp, asrc, one, aq.abuild, Nat.reduceEqDiff, Nat.reduceAdd, Nat.reduceLT, Nat.reduceLeDiff, Nat.reduceMul, Nat.reduceSub, reduceIte, reduceCtorEq, Int.reduceLE, Int.reduceToNat, Int.reduceLT, Int.reduceEq, Int.reduceAdd, Int.reduceSub, Int.reduceMul, Int.reduceNeg]
      rw [IntWalk.i64_in _ (by omega)]
      refine hK2 (vs.length - (k + 1)) _ _ (by omega) ⟨k + 1, rfl, by omega, rfl, fS, fL, f1, f4, f5, f6, hkp b1 _ (addI_ne hI hb (by decide)) hb, by rw [htk, stT_app]; exact hI'⟩
    · refine awp_exit ?_; simp only [thenQ, blockQ, reduceIte, Nat.reduceEqDiff]
      have hknk : k = vs.length := by have := of_decide_eq_false hc; omega
      clear hc
      subst hknk
      rw [List.take_length] at hI
      exact hK _ _ ⟨f1, f4, f5, f6, hb, hI⟩
  rintro fr H ⟨f1, f4, f5, f6, hb, hI⟩
  refine awp_cutK (fun fr H => fr 1 = .ptr 3 b1 0 0 ∧ fr 4 = .ptr 1 bm 0 0 ∧ fr 5 = .ptr 1 bu 0 0 ∧ fr 6 = .fn (.func 46) [] [.ptr 1 bm 0 0, .ptr 1 bu 0 0] ∧ H b1 = some (.rows 3 [[.isl 1 (vs.map strRow), .isl 2 (aa.map Ar.row), .isl 5 (fs.map Fu.row)]]) ∧ addI bm bu b (stT (thK 2 0 vs ++ thK 3 0 (aa.map Ar.name))).1 (stT (thK 2 0 vs ++ thK 3 0 (aa.map Ar.name))).2 H) (fun K hK => ?_) ?_
  · refine awp_seq_k fun K hK => ?_; refine awp_region rfl ?_; simp only [AL, TY, aq, aint, astr, aWant, isPtr, abnd, ahi, alo, aload, rd, newObj, alit, aparts, astore, amapset, cellsOf, ev, avOf, av1, putF, upd, argF, TK.agg, aapp, asrc, one, aq.abuild, Nat.reduceEqDiff, Nat.reduceAdd, Nat.reduceLT, Nat.reduceLeDiff, Nat.reduceMul, Nat.reduceSub, reduceIte, reduceCtorEq, Int.reduceLE, Int.reduceToNat, Int.reduceLT, Int.reduceEq, Int.reduceAdd, Int.reduceSub, Int.reduceMul, Int.reduceNeg]
    simp only [f1, hb, List.length_map, AL, TY, aq, aint, astr, aWant, isPtr, abnd, ahi, alo, aload, rd, newObj, alit, aparts, astore, amapset, cellsOf, ev, avOf, av1, putF, upd, argF, TK.agg, aapp, asrc, one, aq.abuild, Nat.reduceEqDiff, Nat.reduceAdd, Nat.reduceLT, Nat.reduceLeDiff, Nat.reduceMul, Nat.reduceSub, reduceIte, reduceCtorEq, Int.reduceLE, Int.reduceToNat, Int.reduceLT, Int.reduceEq, Int.reduceAdd, Int.reduceSub, Int.reduceMul, Int.reduceNeg]
    refine hK _ _ ?_; clear hK K
    refine awp_block ?_
    refine awp_loopK (fun mm fr H => ∃ k : Nat, mm = aa.length - k ∧ k ≤ aa.length ∧ fr 32 = .int .i64 k ∧ fr 30 = .isl 2 (aa.map Ar.row) ∧ fr 31 = .int .i64 aa.length ∧ fr 1 = .ptr 3 b1 0 0 ∧ fr 4 = .ptr 1 bm 0 0 ∧ fr 5 = .ptr 1 bu 0 0 ∧ fr 6 = .fn (.func 46) [] [.ptr 1 bm 0 0, .ptr 1 bu 0 0] ∧ H b1 = some (.rows 3 [[.isl 1 (vs.map strRow), .isl 2 (aa.map Ar.row), .isl 5 (fs.map Fu.row)]]) ∧ addI bm bu b (stT (thK 2 0 vs ++ thK 3 0 ((aa.take k).map Ar.name))).1 (stT (thK 2 0 vs ++ thK 3 0 ((aa.take k).map Ar.name))).2 H) (aa.length) ⟨0, rfl, Nat.zero_le _, rfl, rfl, rfl, f1, f4, f5, f6, hb, by simpa [thK] using hI⟩ ?_
    rintro mm fr H ⟨k, rfl, hkk, hik, fS, fL, f1, f4, f5, f6, hb, hI⟩ K2 hK2
    refine awp_seq_k fun K hK => ?_; refine awp_region rfl ?_; simp only [AL, TY, aq, aint, astr, aWant, isPtr, abnd, ahi, alo, aload, rd, newObj, alit, aparts, astore, amapset, cellsOf, ev, avOf, av1, putF, upd, argF, TK.agg, aapp, asrc, one, aq.abuild, Nat.reduceEqDiff, Nat.reduceAdd, Nat.reduceLT, Nat.reduceLeDiff, Nat.reduceMul, Nat.reduceSub, reduceIte, reduceCtorEq, Int.reduceLE, Int.reduceToNat, Int.reduceLT, Int.reduceEq, Int.reduceAdd, Int.reduceSub, Int.reduceMul, Int.reduceNeg]
    simp only [hik, fL,List.length_map, AL, TY, aq, aint, astr, aWant, isPtr, abnd, ahi, alo, aload, rd, newObj, alit, aparts, astore, amapset, cellsOf, ev, avOf, av1, putF, upd, argF, TK.agg, aapp, asrc, one, aq.abuild, Nat.reduceEqDiff, Nat.reduceAdd, Nat.reduceLT, Nat.reduceLeDiff, Nat.reduceMul, Nat.reduceSub, reduceIte, reduceCtorEq, Int.reduceLE, Int.reduceToNat, Int.reduceLT, Int.reduceEq, Int.reduceAdd, Int.reduceSub, Int.reduceMul, Int.reduceNeg]
    refine hK _ _ ?_; clear hK K
    refine awp_seq ?_
    refine awp_if _ rfl (fun hc => ?_) (fun hc => ?_)
    · have hltk : k < aa.length := by have := of_decide_eq_true hc; omega
      clear hc
      refine awp_skip ?_; simp only [thenQ, blockQ]
      refine awp_seq ?_
      refine awp_block ?_
      have hg := getA (List.getElem?_eq_getElem hltk)
      have htk := thK_take 3 (aa.map Ar.name) 0 k (by rw [List.length_map]; exact hltk)
      rw [Nat.zero_add, ← List.map_take, ← List.map_take, List.getElem_map] at htk
      generalize aa[k] = a at hg htk
      refine awp_seq_k fun K hK => ?_; refine awp_region rfl ?_; simp only [AL, TY, aq, aint, astr, aWant, isPtr, abnd, ahi, alo, aload, rd, newObj, alit, aparts, astore, amapset, cellsOf, ev, avOf, av1, putF, upd, argF, TK.agg, aapp, asrc, one, aq.abuild, Nat.reduceEqDiff, Nat.reduceAdd, Nat.reduceLT, Nat.reduceLeDiff, Nat.reduceMul, Nat.reduceSub, reduceIte, reduceCtorEq, Int.reduceLE, Int.reduceToNat, Int.reduceLT, Int.reduceEq, Int.reduceAdd, Int.reduceSub, Int.reduceMul, Int.reduceNeg]
      simp only [hik, fS, hg, AL, TY, aq, aint, astr, aWant, isPtr, abnd, ahi, alo, aload, rd, newObj, alit, aparts, astore, amapset, cellsOf, ev, avOf, av1, putF, upd, argF, TK.agg, aapp, asrc, one, aq.abuild, Nat.reduceEqDiff, Nat.reduceAdd, Nat.reduceLT, Nat.reduceLeDiff, Nat.reduceMul, Nat.reduceSub, reduceIte, reduceCtorEq, Int.reduceLE, Int.reduceToNat, Int.reduceLT, Int.reduceEq, Int.reduceAdd, Int.reduceSub, Int.reduceMul, Int.reduceNeg]
      refine awpN_intro fun bx hbx => ?_
      simp only [AL, TY, aq, aint, astr, aWant, isPtr, abnd, ahi, alo, aload, rd, newObj, alit, aparts, astore, amapset, cellsOf, ev, avOf, av1, putF, upd, argF, TK.agg, aapp, asrc, one, aq.abuild, Nat.reduceEqDiff, Nat.reduceAdd, Nat.reduceLT, Nat.reduceLeDiff, Nat.reduceMul, Nat.reduceSub, reduceIte, reduceCtorEq, Int.reduceLE, Int.reduceToNat, Int.reduceLT, Int.reduceEq, Int.reduceAdd, Int.reduceSub, Int.reduceMul, Int.reduceNeg]
      refine hK _ _ ?_; clear hK K
      have hI2 := addI_set hI hbx (some (.rows 2 [[.str [], .int .i64 0]])) (some (.rows 2 [[.str a.name, .int .i64 a.size]]))
      have hbx2 : (upd (upd H bx (some (.rows 2 [[.str [], .int .i64 0]]))) bx (some (.rows 2 [[.str a.name, .int .i64 a.size]]))) bx = some (.rows 2 [[.str a.name, .int .i64 a.size]]) := upd_same _ _ _
      have hb2 : (upd (upd H bx (some (.rows 2 [[.str [], .int .i64 0]]))) bx (some (.rows 2 [[.str a.name, .int .i64 a.size]]))) b1 = some (.rows 3 [[.isl 1 (vs.map strRow), .isl 2 (aa.map Ar.row), .isl 5 (fs.map Fu.row)]]) := by
        have : b1 ≠ bx := fun e => by rw [e, hbx] at hb; cases hb
        simp only [upd, if_neg this]; exact hb
      generalize (upd (upd H bx (some (.rows 2 [[.str [], .int .i64 0]]))) bx (some (.rows 2 [[.str a.name, .int .i64 a.size]]))) = H2 at hI2 hbx2 hb2 ⊢
      refine awp_region rfl ?_
      simp only [f6, hbx2, AL, TY, aq, aint, astr, aWant, isPtr, abnd, ahi, alo, aload, rd, newObj, alit, aparts, astore, amapset, cellsOf, ev, avOf, av1, putF, upd, argF, TK.agg, aapp, asrc, one, aq.abuild, Nat.reduceEqDiff, Nat.reduceAdd, Nat.reduceLT, Nat.reduceLeDiff, Nat.reduceMul, Nat.reduceSub, reduceIte, reduceCtorEq, Int.reduceLE, Int.reduceToNat, Int.reduceLT, Int.reduceEq, Int.reduceAdd, Int.reduceSub, Int.reduceMul, Int.reduceNeg]
      refine awpC_whole (gadd_con ⟨a.name, 3, k⟩ bm bu b _ _ _ hI2) (SubL.refl _) (fun _ => trivial) fun v H' ⟨hv, hI', hkp⟩ => ?_
      subst hv
      simp only [thenQ, blockQ, AL, TY, aq, aint, astr, aWant, isPtr, abnd, ahi, alo, aload, rd, newObj, alit, aparts, astore, amapset, cellsOf, ev, avOf, av1, putF, upd, argF, TK.agg, aapp, asrc, one, aq.abuild, Nat.reduceEqDiff, Nat.reduceAdd, Nat.reduceLT, Nat.reduceLeDiff, Nat.reduceMul, Nat.reduceSub, reduceIte, reduceCtorEq, Int.reduceLE, Int.reduceToNat, Int.reduceLT, Int.reduceEq, Int.reduceAdd, Int.reduceSub, Int.reduceMul, Int.reduceNeg]
      refine awp_region rfl ?_; simp only [AL, TY, aq, aint, astr, aWant, isPtr, abnd, ahi, alo, aload, rd, newObj, alit, aparts, astore, amapset, cellsOf, ev, avOf, av1, putF, upd, argF, TK.agg, aapp, asrc, one, aq.abuild, Nat.reduceEqDiff, Nat.reduceAdd, Nat.reduceLT, Nat.reduceLeDiff, Nat.reduceMul, Nat.reduceSub, reduceIte, reduceCtorEq, Int.reduceLE, Int.reduceToNat, Int.reduceLT, Int.reduceEq, Int.reduceAdd, Int.reduceSub, Int.reduceMul, Int.reduceNeg]
      simp only [hik, thenQ, blockQ, AL, TY, aq, aint, astr, aWant, isPtr, abnd, ahi, alo, aload, rd, newObj, alit, aparts, astore, amapset, cellsOf, ev, avOf, av1, putF, upd, argF, TK.agg, aapp, asrc, one, aq.abuild, Nat.reduceEqDiff, Nat.reduceAdd, Nat.reduceLT, Nat.reduceLeDiff, Nat.reduceMul, Nat.reduceSub, reduceIte, reduceCtorEq, Int.reduceLE, Int.reduceToNat, Int.reduceLT, Int.reduceEq, Int.reduceAdd, Int.reduceSub, Int.reduceMul, Int.reduceNeg]
      rw [IntWalk.i64_in _ (by omega)]
      refine hK2 (aa.length - (k + 1)) _ _ (by omega) ⟨k + 1, rfl, by omega, rfl, fS, fL, f1, f4, f5, f6, hkp b1 _ (addI_ne hI2 hb2 (by decide)) hb2, by rw [htk, ← List.append_assoc, stT_app]; exact hI'⟩
    · refine awp_exit ?_; simp only [thenQ, blockQ, reduceIte, Nat.reduceEqDiff]
      have hknk : k = aa.length := by have := of_decide_eq_false hc; omega
      clear hc
      subst hknk
      rw [List.take_length] at hI
      exact hK _ _ ⟨f1, f4, f5, f6, hb, hI⟩
  rintro fr H ⟨f1, f4, f5, f6, hb, hI⟩
  refine awp_cutK (fun fr H => fr 1 = .ptr 3 b1 0 0 ∧ fr 4 = .ptr 1 bm 0 0 ∧ fr 5 = .ptr 1 bu 0 0 ∧ fr 6 = .fn (.func 46) [] [.ptr 1 bm 0 0, .ptr 1 bu 0 0] ∧ H b1 = some (.rows 3 [[.isl 1 (vs.map strRow), .isl 2 (aa.map Ar.row), .isl 5 (fs.map Fu.row)]]) ∧ addI bm bu b (stT (thK 2 0 vs ++ thK 3 0 (aa.map Ar.name) ++ thK 4 0 (fs.map Fu.name))).1 (stT (thK 2 0 vs ++ thK 3 0 (aa.map Ar.name) ++ thK 4 0 (fs.map Fu.name))).2 H) (fun K hK => ?_) ?_
  · refine awp_seq_k fun K hK => ?_; refine awp_region rfl ?_; simp only [AL, TY, aq, aint, astr, aWant, isPtr, abnd, ahi, alo, aload, rd, newObj, alit, aparts, astore, amapset, cellsOf, ev, avOf, av1, putF, upd, argF, TK.agg, aapp, asrc, one, aq.abuild, Nat.reduceEqDiff, Nat.reduceAdd, Nat.reduceLT, Nat.reduceLeDiff, Nat.reduceMul, Nat.reduceSub, reduceIte, reduceCtorEq, Int.reduceLE, Int.reduceToNat, Int.reduceLT, Int.reduceEq, Int.reduceAdd, Int.reduceSub, Int.reduceMul, Int.reduceNeg]
    simp only [f1, hb, List.length_map, AL, TY, aq, aint, astr, aWant, isPtr, abnd, ahi, alo, aload, rd, newObj, alit, aparts, astore, amapset, cellsOf, ev, avOf, av1, putF, upd, argF, TK.agg, aapp, asrc, one, aq.abuild, Nat.reduceEqDiff, Nat.reduceAdd, Nat.reduceLT, Nat.reduceLeDiff, Nat.reduceMul, Nat.reduceSub, reduceIte, reduceCtorEq, Int.reduceLE, Int.reduceToNat, Int.reduceLT, Int.reduceEq, Int.reduceAdd, Int.reduceSub, Int.reduceMul, Int.reduceNeg]
    refine hK _ _ ?_; clear hK K
    refine awp_block ?_
    refine awp_loopK (fun mm fr H => ∃ k : Nat, mm = fs.length - k ∧ k ≤ fs.length ∧ fr 47 = .int .i64 k ∧ fr 45 = .isl 5 (fs.map Fu.row) ∧ fr 46 = .int .i64 fs.length ∧ fr 1 = .ptr 3 b1 0 0 ∧ fr 4 = .ptr 1 bm 0 0 ∧ fr 5 = .ptr 1 bu 0 0 ∧ fr 6 = .fn (.func 46) [] [.ptr 1 bm 0 0, .ptr 1 bu 0 0] ∧ H b1 = some (.rows 3 [[.isl 1 (vs.map strRow), .isl 2 (aa.map Ar.row), .isl 5 (fs.map Fu.row)]]) ∧ addI bm bu b (stT (thK 2 0 vs ++ thK 3 0 (aa.map Ar.name) ++ thK 4 0 ((fs.take k).map Fu.name))).1 (stT (thK 2 0 vs ++ thK 3 0 (aa.map Ar.name) ++ thK 4 0 ((fs.take k).map Fu.name))).2 H) (fs.length) ⟨0, rfl, Nat.zero_le _, rfl, rfl, rfl, f1, f4, f5, f6, hb, by simpa [thK] using hI⟩ ?_
    rintro mm fr H ⟨k, rfl, hkk, hik, fS, fL, f1, f4, f5, f6, hb, hI⟩ K2 hK2
    refine awp_seq_k fun K hK => ?_; refine awp_region rfl ?_; simp only [AL, TY, aq, aint, astr, aWant, isPtr, abnd, ahi, alo, aload, rd, newObj, alit, aparts, astore, amapset, cellsOf, ev, avOf, av1, putF, upd, argF, TK.agg, aapp, asrc, one, aq.abuild, Nat.reduceEqDiff, Nat.reduceAdd, Nat.reduceLT, Nat.reduceLeDiff, Nat.reduceMul, Nat.reduceSub, reduceIte, reduceCtorEq, Int.reduceLE, Int.reduceToNat, Int.reduceLT, Int.reduceEq, Int.reduceAdd, Int.reduceSub, Int.reduceMul, Int.reduceNeg]
    simp only [hik, fL,List.length_map, AL, TY, aq, aint, astr, aWant, isPtr, abnd, ahi, alo, aload, rd, newObj, alit, aparts, astore, amapset, cellsOf, ev, avOf, av1, putF, upd, argF, TK.agg, aapp, asrc, one, aq.abuild, Nat.reduceEqDiff, Nat.reduceAdd, Nat.reduceLT, Nat.reduceLeDiff, Nat.reduceMul, Nat.reduceSub, reduceIte, reduceCtorEq, Int.reduceLE, Int.reduceToNat, Int.reduceLT, Int.reduceEq, Int.reduceAdd, Int.reduceSub, Int.reduceMul, Int.reduceNeg]
    refine hK _ _ ?_; clear hK K
    refine awp_seq ?_
    refine awp_if _ rfl (fun hc => ?_) (fun hc => ?_)
    · have hltk : k < fs.length := by have := of_decide_eq_true hc; omega
      clear hc
      refine awp_skip ?_; simp only [thenQ, blockQ]
      refine awp_seq ?_
      refine awp_block ?_
      have hg := getF (List.getElem?_eq_getElem hltk)
      have htk := thK_take 4 (fs.map Fu.name) 0 k (by rw [List.length_map]; exact hltk)
      rw [Nat.zero_add, ← List.map_take, ← List.map_take, List.getElem_map] at htk
      generalize fs[k] = f at hg htk
      refine awp_seq_k fun K hK => ?_; refine awp_region rfl ?_; simp only [AL, TY, aq, aint, astr, aWant, isPtr, abnd, ahi, alo, aload, rd, newObj, alit, aparts, astore, amapset, cellsOf, ev, avOf, av1, putF, upd, argF, TK.agg, aapp, asrc, one, aq.abuild, Nat.reduceEqDiff, Nat.reduceAdd, Nat.reduceLT, Nat.reduceLeDiff, Nat.reduceMul, Nat.reduceSub, reduceIte, reduceCtorEq, Int.reduceLE, Int.reduceToNat, Int.reduceLT, Int.reduceEq, Int.reduceAdd, Int.reduceSub, Int.reduceMul, Int.reduceNeg]
      simp only [hik, fS, hg, AL, TY, aq, aint, astr, aWant, isPtr, abnd, ahi, alo, aload, rd, newObj, alit, aparts, astore, amapset, cellsOf, ev, avOf, av1, putF, upd, argF, TK.agg, aapp, asrc, one, aq.abuild, Nat.reduceEqDiff, Nat.reduceAdd, Nat.reduceLT, Nat.reduceLeDiff, Nat.reduceMul, Nat.reduceSub, reduceIte, reduceCtorEq, Int.reduceLE, Int.reduceToNat, Int.reduceLT, Int.reduceEq, Int.reduceAdd, Int.reduceSub, Int.reduceMul, Int.reduceNeg]
      refine awpN_intro fun bx hbx => ?_
      simp only [AL, TY, aq, aint, astr, aWant, isPtr, abnd, ahi, alo, aload, rd, newObj, alit, aparts, astore, amapset, cellsOf, ev, avOf, av1, putF, upd, argF, TK.agg, aapp, asrc, one, aq.abuild, Nat.reduceEqDiff, Nat.reduceAdd, Nat.reduceLT, Nat.reduceLeDiff, Nat.reduceMul, Nat.reduceSub, reduceIte, reduceCtorEq, Int.reduceLE, Int.reduceToNat, Int.reduceLT, Int.reduceEq, Int.reduceAdd, Int.reduceSub, Int.reduceMul, Int.reduceNeg]
      refine hK _ _ ?_; clear hK K
      have hI2 := addI_set hI hbx (some (.rows 5 [[.str [], .nsl, .nsl, .bool false, .nsl]])) (some (.rows 5 [[.str f.name, .isl 1 (f.params.map strRow), .isl 1 (f.locs.map strRow), .bool f.word, .isl 5 (f.body.map Sm.row)]]))
      have hbx2 : (upd (upd H bx (some (.rows 5 [[.str [], .nsl, .nsl, .bool false, .nsl]]))) bx (some (.rows 5 [[.str f.name, .isl 1 (f.params.map strRow), .isl 1 (f.locs.map strRow), .bool f.word, .isl 5 (f.body.map Sm.row)]]))) bx = some (.rows 5 [[.str f.name, .isl 1 (f.params.map strRow), .isl 1 (f.locs.map strRow), .bool f.word, .isl 5 (f.body.map Sm.row)]]) := upd_same _ _ _
      have hb2 : (upd (upd H bx (some (.rows 5 [[.str [], .nsl, .nsl, .bool false, .nsl]]))) bx (some (.rows 5 [[.str f.name, .isl 1 (f.params.map strRow), .isl 1 (f.locs.map strRow), .bool f.word, .isl 5 (f.body.map Sm.row)]]))) b1 = some (.rows 3 [[.isl 1 (vs.map strRow), .isl 2 (aa.map Ar.row), .isl 5 (fs.map Fu.row)]]) := by
        have : b1 ≠ bx := fun e => by rw [e, hbx] at hb; cases hb
        simp only [upd, if_neg this]; exact hb
      generalize (upd (upd H bx (some (.rows 5 [[.str [], .nsl, .nsl, .bool false, .nsl]]))) bx (some (.rows 5 [[.str f.name, .isl 1 (f.params.map strRow), .isl 1 (f.locs.map strRow), .bool f.word, .isl 5 (f.body.map Sm.row)]]))) = H2 at hI2 hbx2 hb2 ⊢
      refine awp_region rfl ?_
      simp only [f6, hbx2, AL, TY, aq, aint, astr, aWant, isPtr, abnd, ahi, alo, aload, rd, newObj, alit, aparts, astore, amapset, cellsOf, ev, avOf, av1, putF, upd, argF, TK.agg, aapp, asrc, one, aq.abuild, Nat.reduceEqDiff, Nat.reduceAdd, Nat.reduceLT, Nat.reduceLeDiff, Nat.reduceMul, Nat.reduceSub, reduceIte, reduceCtorEq, Int.reduceLE, Int.reduceToNat, Int.reduceLT, Int.reduceEq, Int.reduceAdd, Int.reduceSub, Int.reduceMul, Int.reduceNeg]
      refine awpC_whole (gadd_con ⟨f.name, 4, k⟩ bm bu b _ _ _ hI2) (SubL.refl _) (fun _ => trivial) fun v H' ⟨hv, hI', hkp⟩ => ?_
      subst hv
      simp only [thenQ, blockQ, AL, TY, aq, aint, astr, aWant, isPtr, abnd, ahi, alo, aload, rd, newObj, alit, aparts, astore, amapset, cellsOf, ev, avOf, av1, putF, upd, argF, TK.agg, aapp, asrc, one, aq.abuild, Nat.reduceEqDiff, Nat.reduceAdd, Nat.reduceLT, Nat.reduceLeDiff, Nat.reduceMul, Nat.reduceSub, reduceIte, reduceCtorEq, Int.reduceLE, Int.reduceToNat, Int.reduceLT, Int.reduceEq, Int.reduceAdd, Int.reduceSub, Int.reduceMul, Int.reduceNeg]
      refine awp_region rfl ?_; simp only [AL, TY, aq, aint, astr, aWant, isPtr, abnd, ahi, alo, aload, rd, newObj, alit, aparts, astore, amapset, cellsOf, ev, avOf, av1, putF, upd, argF, TK.agg, aapp, asrc, one, aq.abuild, Nat.reduceEqDiff, Nat.reduceAdd, Nat.reduceLT, Nat.reduceLeDiff, Nat.reduceMul, Nat.reduceSub, reduceIte, reduceCtorEq, Int.reduceLE, Int.reduceToNat, Int.reduceLT, Int.reduceEq, Int.reduceAdd, Int.reduceSub, Int.reduceMul, Int.reduceNeg]
      simp only [hik, thenQ, blockQ, AL, TY, aq, aint, astr, aWant, isPtr, abnd, ahi, alo, aload, rd, newObj, alit, aparts, astore, amapset, cellsOf, ev, avOf, av1, putF, upd, argF, TK.agg, aapp, asrc, one, aq.abuild, Nat.reduceEqDiff, Nat.reduceAdd, Nat.reduceLT, Nat.reduceLeDiff, Nat.reduceMul, Nat.reduceSub, reduceIte, reduceCtorEq, Int.reduceLE, Int.reduceToNat, Int.reduceLT, Int.reduceEq, Int.reduceAdd, Int.reduceSub, Int.reduceMul, Int.reduceNeg]
      rw [IntWalk.i64_in _ (by omega)]
      refine hK2 (fs.length - (k + 1)) _ _ (by omega) ⟨k + 1, rfl, by omega, rfl, fS, fL, f1, f4, f5, f6, hkp b1 _ (addI_ne hI2 hb2 (by decide)) hb2, by rw [htk, ← List.append_assoc, stT_app]; exact hI'⟩
    · refine awp_exit ?_; simp only [thenQ, blockQ, reduceIte, Nat.reduceEqDiff]
      have hknk : k = fs.length := by have := of_decide_eq_false hc; omega
      clear hc
      subst hknk
      rw [List.take_length] at hI
      exact hK _ _ ⟨f1, f4, f5, f6, hb, hI⟩
  rintro fr H ⟨f1, f4, f5, f6, hb, hI⟩
  rw [← hG] at hI
  obtain ⟨i1, i2, i3⟩ := hI
  refine awp_seq_k fun K hK => ?_
  refine awp_region_draw (fun x => x ≠ bm ∧ x ≠ bu) [(0, true), (1, true), (2, true), (3, true)] draws (by kernel_rfl) rfl ?_
  simp only [emit, markOf, f4, f5, i1, i2, awpL_entry, touch_ptr, AL, TY, aq, aint, astr, aWant, isPtr, abnd, ahi, alo, aload, rd, newObj, alit, aparts, astore, amapset, cellsOf, ev, avOf, av1, putF, upd, argF, TK.agg, aapp, asrc, one, aq.abuild, Nat.reduceEqDiff, Nat.reduceAdd, Nat.reduceLT, Nat.reduceLeDiff, Nat.reduceMul, Nat.reduceSub, reduceIte, reduceCtorEq, Int.reduceLE, Int.reduceToNat, Int.reduceLT, Int.reduceEq, Int.reduceAdd, Int.reduceSub, Int.reduceMul, Int.reduceNeg]
  refine hK _ _ ?_; clear hK K
  refine awp_ret ?_
  simp only [thenQ, blockQ, bodyQ, aresult, ares, argF, AL, TY, aq, aint, astr, aWant, isPtr, abnd, ahi, alo, aload, rd, newObj, alit, aparts, astore, amapset, cellsOf, ev, avOf, av1, putF, upd, argF, TK.agg, aapp, asrc, one, aq.abuild, Nat.reduceEqDiff, Nat.reduceAdd, Nat.reduceLT, Nat.reduceLeDiff, Nat.reduceMul, Nat.reduceSub, reduceIte, reduceCtorEq, Int.reduceLE, Int.reduceToNat, Int.reduceLT, Int.reduceEq, Int.reduceAdd, Int.reduceSub, Int.reduceMul, Int.reduceNeg]
  exact Gives.whole ⟨b, rfl, i3⟩
end Go.Proofs.Ytnbokmbjiioooaa
