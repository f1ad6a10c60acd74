/- Chapter 16, the program's: visit. -/
import Derived.Test.YtnbokmbjiioooaaS16i
set_option linter.unusedSimpArgs false
set_option linter.unusedVariables false
namespace Go.Proofs.Ytnbokmbjiioooaa
open Go.Al
/-- a use as the program has it -/
def useV (u : Us) : AV := .agg [.int .i64 (if u.kind = 1 then 2 else u.kind), .str u.name, .int .i64 u.num]
/-- What is done with each use: g, with what it has captured. D: what memory holds; M: the blocks that it may turn. -/
structure Vis (σ : Type) (g : FuncId) (caps : List AV) where
  D : σ → Hp → Prop
  step : σ → Us → σ
  M : Nat → Prop
  spec : ∀ s H u, (u.kind = 1 ∨ u.kind = 3 ∨ u.kind = 4) → D s H → Con env g (useV u :: caps) H (fun ae H' => ∃ v, ae = .ret v ∧ (v = .tup [] ∧ D (step s u) H' ∧ keeps M H H'))
  ext : ∀ s H H', D s H → keeps (fun _ => False) H H' → D s H'
  old : ∀ s H, D s H → ∀ b, M b → H b ≠ none
set_option maxHeartbeats 4000000 in
theorem visitE_con {σ : Type} {g : FuncId} {caps : List AV} (V : Vis σ g caps) (b3 b5 : Nat) (hm3 : ¬ V.M b3) (hm5 : ¬ V.M b5) (n : Nat) : ∀ l : List Ex, szE l = n → okE l → ∀ (s : σ) (H : Hp), H b3 = some (.rows 1 [[.fn (.func g) [] caps]]) → H b5 = some (.rows 1 [[.fn (.func 48) [] [.ptr 1 b3 0 0, .ptr 1 b5 0 0]]]) → V.D s H →
    Con env 48 [.isl 5 (l.map Ex.row), .ptr 1 b3 0 0, .ptr 1 b5 0 0] H (fun ae H' => ∃ v, ae = .ret v ∧ (v = .tup [] ∧ V.D ((usesE l).foldl V.step s) H' ∧ keeps V.M H H')) := by
  induction n using Nat.strongRecOn with
  | _ n ih =>
    intro l hn hok s H0 i3 i5 hD
    have hfit : l.length ≤ 9223372036854775807 := hok.fit
    refine con_of 43 [] Try.func48 rfl rfl rfl rfl ?_
    refine awp_seq_k fun K hK => ?_; refine awp_region rfl ?_; simp only [AL, TY, aq, aint, astr, aWant, isPtr, abnd, ahi, alo, aload, rd, newObj, alit, aparts, astore, amapset, cellsOf, ev, avOf, av1, putF, upd, argF, TK.agg, aapp, asrc, one, aq.abuild, Nat.reduceEqDiff, Nat.reduceAdd, Nat.reduceLT, Nat.reduceLeDiff, Nat.reduceMul, Nat.reduceSub, reduceIte, reduceCtorEq, Int.reduceLE, Int.reduceToNat, Int.reduceLT, Int.reduceEq, Int.reduceAdd, Int.reduceSub, Int.reduceMul, Int.reduceNeg]
    simp only [List.length_map, AL, TY, aq, aint, astr, aWant, isPtr, abnd, ahi, alo, aload, rd, newObj, alit, aparts, astore, amapset, cellsOf, ev, avOf, av1, putF, upd, argF, TK.agg, aapp, asrc, one, aq.abuild, Nat.reduceEqDiff, Nat.reduceAdd, Nat.reduceLT, Nat.reduceLeDiff, Nat.reduceMul, Nat.reduceSub, reduceIte, reduceCtorEq, Int.reduceLE, Int.reduceToNat, Int.reduceLT, Int.reduceEq, Int.reduceAdd, Int.reduceSub, Int.reduceMul, Int.reduceNeg]
    refine hK _ _ ?_; clear hK K
    refine awp_block ?_
    refine awp_loopK (fun mm fr H => ∃ k : Nat, mm = l.length - k ∧ k ≤ l.length ∧ fr 8 = .int .i64 k ∧ fr 1 = .ptr 1 b3 0 0 ∧ fr 2 = .ptr 1 b5 0 0 ∧ fr 6 = .isl 5 (l.map Ex.row) ∧ fr 7 = .int .i64 l.length ∧ V.D ((usesE (l.take k)).foldl V.step s) H ∧ keeps V.M H0 H) (l.length) ⟨0, rfl, Nat.zero_le _, rfl, rfl, rfl, rfl, rfl, by simpa [usesE] using hD, keeps.refl _ _⟩ ?_
    rintro mm fr H ⟨k, rfl, hkk, hik, f3, f5, fS, fL, hDk, hkp⟩ K2 hK2
    refine awp_seq_k fun K hK => ?_; refine awp_region rfl ?_; simp only [AL, TY, aq, aint, astr, aWant, isPtr, abnd, ahi, alo, aload, rd, newObj, alit, aparts, astore, amapset, cellsOf, ev, avOf, av1, putF, upd, argF, TK.agg, aapp, asrc, one, aq.abuild, Nat.reduceEqDiff, Nat.reduceAdd, Nat.reduceLT, Nat.reduceLeDiff, Nat.reduceMul, Nat.reduceSub, reduceIte, reduceCtorEq, Int.reduceLE, Int.reduceToNat, Int.reduceLT, Int.reduceEq, Int.reduceAdd, Int.reduceSub, Int.reduceMul, Int.reduceNeg]
    simp only [hik, fL,List.length_map, AL, TY, aq, aint, astr, aWant, isPtr, abnd, ahi, alo, aload, rd, newObj, alit, aparts, astore, amapset, cellsOf, ev, avOf, av1, putF, upd, argF, TK.agg, aapp, asrc, one, aq.abuild, Nat.reduceEqDiff, Nat.reduceAdd, Nat.reduceLT, Nat.reduceLeDiff, Nat.reduceMul, Nat.reduceSub, reduceIte, reduceCtorEq, Int.reduceLE, Int.reduceToNat, Int.reduceLT, Int.reduceEq, Int.reduceAdd, Int.reduceSub, Int.reduceMul, Int.reduceNeg]
    refine hK _ _ ?_; clear hK K
    refine awp_seq ?_
    refine awp_if _ rfl (fun hc => ?_) (fun hc => ?_)
    · have hltk : k < l.length := by have := of_decide_eq_true hc; omega
      clear hc
      refine awp_skip ?_; simp only [thenQ, blockQ]
      refine awp_seq ?_
      refine awp_block ?_
      have hg := getE (List.getElem?_eq_getElem hltk)
      have hmem := List.getElem_mem hltk
      have hoke := hok.all _ hmem
      have hsz := szE_mem hmem
      have htk := usesE_take hltk
      generalize l[k] = e at hg htk hoke hsz
      have hse := e.sz_eq
      have j3 := hkp _ _ hm3 i3
      have j5 := hkp _ _ hm5 i5
      refine awp_seq_k fun K hK => ?_; refine awp_region rfl ?_; simp only [AL, TY, aq, aint, astr, aWant, isPtr, abnd, ahi, alo, aload, rd, newObj, alit, aparts, astore, amapset, cellsOf, ev, avOf, av1, putF, upd, argF, TK.agg, aapp, asrc, one, aq.abuild, Nat.reduceEqDiff, Nat.reduceAdd, Nat.reduceLT, Nat.reduceLeDiff, Nat.reduceMul, Nat.reduceSub, reduceIte, reduceCtorEq, Int.reduceLE, Int.reduceToNat, Int.reduceLT, Int.reduceEq, Int.reduceAdd, Int.reduceSub, Int.reduceMul, Int.reduceNeg]
      simp only [hik, fS, hg, AL, TY, aq, aint, astr, aWant, isPtr, abnd, ahi, alo, aload, rd, newObj, alit, aparts, astore, amapset, cellsOf, ev, avOf, av1, putF, upd, argF, TK.agg, aapp, asrc, one, aq.abuild, Nat.reduceEqDiff, Nat.reduceAdd, Nat.reduceLT, Nat.reduceLeDiff, Nat.reduceMul, Nat.reduceSub, reduceIte, reduceCtorEq, Int.reduceLE, Int.reduceToNat, Int.reduceLT, Int.reduceEq, Int.reduceAdd, Int.reduceSub, Int.reduceMul, Int.reduceNeg]
      refine awpN_intro fun bx hbx => ?_
      simp only [AL, TY, aq, aint, astr, aWant, isPtr, abnd, ahi, alo, aload, rd, newObj, alit, aparts, astore, amapset, cellsOf, ev, avOf, av1, putF, upd, argF, TK.agg, aapp, asrc, one, aq.abuild, Nat.reduceEqDiff, Nat.reduceAdd, Nat.reduceLT, Nat.reduceLeDiff, Nat.reduceMul, Nat.reduceSub, reduceIte, reduceCtorEq, Int.reduceLE, Int.reduceToNat, Int.reduceLT, Int.reduceEq, Int.reduceAdd, Int.reduceSub, Int.reduceMul, Int.reduceNeg]
      refine hK _ _ ?_; clear hK K
      have hxM : ¬ V.M bx := fun hm => V.old _ _ hDk bx hm hbx
      have hx : (upd (upd H bx (some (.rows 5 [[.int .i64 0, .int .i64 0, .int .u32 0, .str [], .nsl]]))) bx (some (.rows 5 [[.int .i64 e.kind, .int .i64 e.op, .int .u32 e.num, .str e.name, .isl 5 (e.kids.map Ex.row)]]))) bx = some (.rows 5 [[.int .i64 e.kind, .int .i64 e.op, .int .u32 e.num, .str e.name, .isl 5 (e.kids.map Ex.row)]]) := upd_same _ _ _
      have hkx : keeps (fun _ => False) H (upd (upd H bx (some (.rows 5 [[.int .i64 0, .int .i64 0, .int .u32 0, .str [], .nsl]]))) bx (some (.rows 5 [[.int .i64 e.kind, .int .i64 e.op, .int .u32 e.num, .str e.name, .isl 5 (e.kids.map Ex.row)]]))) := ((keeps.refl _ H).new hbx _).new hbx _
      generalize (upd (upd H bx (some (.rows 5 [[.int .i64 0, .int .i64 0, .int .u32 0, .str [], .nsl]]))) bx (some (.rows 5 [[.int .i64 e.kind, .int .i64 e.op, .int .u32 e.num, .str e.name, .isl 5 (e.kids.map Ex.row)]]))) = H1 at hx hkx ⊢
      have hD1 := V.ext _ _ _ hDk hkx
      have hk1 : keeps V.M H0 H1 := hkp.trans (hkx.mono fun _ h => h.elim)
      have j3 := hkx _ _ (fun h => h) j3
      have j5 := hkx _ _ (fun h => h) j5
      refine awp_cutK (fun fr H => fr 1 = .ptr 1 b3 0 0 ∧ fr 2 = .ptr 1 b5 0 0 ∧ fr 6 = .isl 5 (l.map Ex.row) ∧ fr 7 = .int .i64 l.length ∧ fr 8 = .int .i64 k ∧ fr 5 = .ptr 5 bx 0 0 ∧ H bx = some (.rows 5 [[.int .i64 e.kind, .int .i64 e.op, .int .u32 e.num, .str e.name, .isl 5 (e.kids.map Ex.row)]]) ∧ V.D ((usesE (l.take k) ++ useX e).foldl V.step s) H ∧ keeps V.M H0 H) (fun K hK => ?_) ?_
      · refine awp_seq_k fun K hK => ?_; refine awp_region rfl ?_; simp only [AL, TY, aq, aint, astr, aWant, isPtr, abnd, ahi, alo, aload, rd, newObj, alit, aparts, astore, amapset, cellsOf, ev, avOf, av1, putF, upd, argF, TK.agg, aapp, asrc, one, aq.abuild, Nat.reduceEqDiff, Nat.reduceAdd, Nat.reduceLT, Nat.reduceLeDiff, Nat.reduceMul, Nat.reduceSub, reduceIte, reduceCtorEq, Int.reduceLE, Int.reduceToNat, Int.reduceLT, Int.reduceEq, Int.reduceAdd, Int.reduceSub, Int.reduceMul, Int.reduceNeg]
        simp only [hx, AL, TY, aq, aint, astr, aWant, isPtr, abnd, ahi, alo, aload, rd, newObj, alit, aparts, astore, amapset, cellsOf, ev, avOf, av1, putF, upd, argF, TK.agg, aapp, asrc, one, aq.abuild, Nat.reduceEqDiff, Nat.reduceAdd, Nat.reduceLT, Nat.reduceLeDiff, Nat.reduceMul, Nat.reduceSub, reduceIte, reduceCtorEq, Int.reduceLE, Int.reduceToNat, Int.reduceLT, Int.reduceEq, Int.reduceAdd, Int.reduceSub, Int.reduceMul, Int.reduceNeg]
        refine hK _ _ ?_; clear hK K
        refine awp_block ?_
        refine awp_seq_k fun K hK => ?_; refine awp_region rfl ?_; simp only [AL, TY, aq, aint, astr, aWant, isPtr, abnd, ahi, alo, aload, rd, newObj, alit, aparts, astore, amapset, cellsOf, ev, avOf, av1, putF, upd, argF, TK.agg, aapp, asrc, one, aq.abuild, Nat.reduceEqDiff, Nat.reduceAdd, Nat.reduceLT, Nat.reduceLeDiff, Nat.reduceMul, Nat.reduceSub, reduceIte, reduceCtorEq, Int.reduceLE, Int.reduceToNat, Int.reduceLT, Int.reduceEq, Int.reduceAdd, Int.reduceSub, Int.reduceMul, Int.reduceNeg]
        refine hK _ _ ?_; clear hK K
        by_cases k1 : e.kind = 2
        · refine awp_if true (congrArg AV.bool (decide_eq_true k1)) (fun _ => ?_) (fun hc => by cases hc)
          refine awp_region rfl ?_
          simp only [f3, j3, hx, List.length_map, AL, TY, aq, aint, astr, aWant, isPtr, abnd, ahi, alo, aload, rd, newObj, alit, aparts, astore, amapset, cellsOf, ev, avOf, av1, putF, upd, argF, TK.agg, aapp, asrc, one, aq.abuild, Nat.reduceEqDiff, Nat.reduceAdd, Nat.reduceLT, Nat.reduceLeDiff, Nat.reduceMul, Nat.reduceSub, reduceIte, reduceCtorEq, Int.reduceLE, Int.reduceToNat, Int.reduceLT, Int.reduceEq, Int.reduceAdd, Int.reduceSub, Int.reduceMul, Int.reduceNeg]
          refine awpC_whole (V.spec ((usesE (l.take k)).foldl V.step s) H1 ⟨e.name, 1, 0⟩ (by simp) hD1) (SubL.refl _) (fun _ => trivial) fun v H' ⟨hv, hD', hkp'⟩ => ?_
          subst hv
          simp only [thenQ, blockQ, AL, TY, aq, aint, astr, aWant, isPtr, abnd, ahi, alo, aload, rd, newObj, alit, aparts, astore, amapset, cellsOf, ev, avOf, av1, putF, upd, argF, TK.agg, aapp, asrc, one, aq.abuild, Nat.reduceEqDiff, Nat.reduceAdd, Nat.reduceLT, Nat.reduceLeDiff, Nat.reduceMul, Nat.reduceSub, reduceIte, reduceCtorEq, Int.reduceLE, Int.reduceToNat, Int.reduceLT, Int.reduceEq, Int.reduceAdd, Int.reduceSub, Int.reduceMul, Int.reduceNeg]
          refine hK _ _ ⟨f3, f5, fS, fL, hik, rfl, hkp' _ _ hxM hx, ?_, hk1.trans hkp'⟩
          rw [show useX e = [⟨e.name, 1, 0⟩] by simp [useX, k1], List.foldl_append]; exact hD'
        refine awp_if false (congrArg AV.bool (decide_eq_false k1)) (fun hc => by cases hc) (fun _ => ?_)
        refine awp_seq_k fun K hK => ?_; refine awp_region rfl ?_; simp only [AL, TY, aq, aint, astr, aWant, isPtr, abnd, ahi, alo, aload, rd, newObj, alit, aparts, astore, amapset, cellsOf, ev, avOf, av1, putF, upd, argF, TK.agg, aapp, asrc, one, aq.abuild, Nat.reduceEqDiff, Nat.reduceAdd, Nat.reduceLT, Nat.reduceLeDiff, Nat.reduceMul, Nat.reduceSub, reduceIte, reduceCtorEq, Int.reduceLE, Int.reduceToNat, Int.reduceLT, Int.reduceEq, Int.reduceAdd, Int.reduceSub, Int.reduceMul, Int.reduceNeg]
        refine hK _ _ ?_; clear hK K
        by_cases k3 : e.kind = 3
        · refine awp_if true (congrArg AV.bool (decide_eq_true k3)) (fun _ => ?_) (fun hc => by cases hc)
          refine awp_region rfl ?_
          simp only [f3, j3, hx, List.length_map, AL, TY, aq, aint, astr, aWant, isPtr, abnd, ahi, alo, aload, rd, newObj, alit, aparts, astore, amapset, cellsOf, ev, avOf, av1, putF, upd, argF, TK.agg, aapp, asrc, one, aq.abuild, Nat.reduceEqDiff, Nat.reduceAdd, Nat.reduceLT, Nat.reduceLeDiff, Nat.reduceMul, Nat.reduceSub, reduceIte, reduceCtorEq, Int.reduceLE, Int.reduceToNat, Int.reduceLT, Int.reduceEq, Int.reduceAdd, Int.reduceSub, Int.reduceMul, Int.reduceNeg]
          refine awpC_whole (V.spec ((usesE (l.take k)).foldl V.step s) H1 ⟨e.name, 3, 0⟩ (by simp) hD1) (SubL.refl _) (fun _ => trivial) fun v H' ⟨hv, hD', hkp'⟩ => ?_
          subst hv
          simp only [thenQ, blockQ, AL, TY, aq, aint, astr, aWant, isPtr, abnd, ahi, alo, aload, rd, newObj, alit, aparts, astore, amapset, cellsOf, ev, avOf, av1, putF, upd, argF, TK.agg, aapp, asrc, one, aq.abuild, Nat.reduceEqDiff, Nat.reduceAdd, Nat.reduceLT, Nat.reduceLeDiff, Nat.reduceMul, Nat.reduceSub, reduceIte, reduceCtorEq, Int.reduceLE, Int.reduceToNat, Int.reduceLT, Int.reduceEq, Int.reduceAdd, Int.reduceSub, Int.reduceMul, Int.reduceNeg]
          refine hK _ _ ⟨f3, f5, fS, fL, hik, rfl, hkp' _ _ hxM hx, ?_, hk1.trans hkp'⟩
          rw [show useX e = [⟨e.name, 3, 0⟩] by simp [useX, k1, k3], List.foldl_append]; exact hD'
        refine awp_if false (congrArg AV.bool (decide_eq_false k3)) (fun hc => by cases hc) (fun _ => ?_)
        refine awp_seq_k fun K hK => ?_; refine awp_region rfl ?_; simp only [AL, TY, aq, aint, astr, aWant, isPtr, abnd, ahi, alo, aload, rd, newObj, alit, aparts, astore, amapset, cellsOf, ev, avOf, av1, putF, upd, argF, TK.agg, aapp, asrc, one, aq.abuild, Nat.reduceEqDiff, Nat.reduceAdd, Nat.reduceLT, Nat.reduceLeDiff, Nat.reduceMul, Nat.reduceSub, reduceIte, reduceCtorEq, Int.reduceLE, Int.reduceToNat, Int.reduceLT, Int.reduceEq, Int.reduceAdd, Int.reduceSub, Int.reduceMul, Int.reduceNeg]
        refine hK _ _ ?_; clear hK K
        by_cases k4 : e.kind = 4
        · refine awp_if true (congrArg AV.bool (decide_eq_true k4)) (fun _ => ?_) (fun hc => by cases hc)
          refine awp_region rfl ?_
          simp only [f3, j3, hx, List.length_map, AL, TY, aq, aint, astr, aWant, isPtr, abnd, ahi, alo, aload, rd, newObj, alit, aparts, astore, amapset, cellsOf, ev, avOf, av1, putF, upd, argF, TK.agg, aapp, asrc, one, aq.abuild, Nat.reduceEqDiff, Nat.reduceAdd, Nat.reduceLT, Nat.reduceLeDiff, Nat.reduceMul, Nat.reduceSub, reduceIte, reduceCtorEq, Int.reduceLE, Int.reduceToNat, Int.reduceLT, Int.reduceEq, Int.reduceAdd, Int.reduceSub, Int.reduceMul, Int.reduceNeg]
          refine awpC_whole (V.spec ((usesE (l.take k)).foldl V.step s) H1 ⟨e.name, 4, e.kids.length⟩ (by simp) hD1) (SubL.refl _) (fun _ => trivial) fun v H' ⟨hv, hD', hkp'⟩ => ?_
          subst hv
          simp only [thenQ, blockQ, AL, TY, aq, aint, astr, aWant, isPtr, abnd, ahi, alo, aload, rd, newObj, alit, aparts, astore, amapset, cellsOf, ev, avOf, av1, putF, upd, argF, TK.agg, aapp, asrc, one, aq.abuild, Nat.reduceEqDiff, Nat.reduceAdd, Nat.reduceLT, Nat.reduceLeDiff, Nat.reduceMul, Nat.reduceSub, reduceIte, reduceCtorEq, Int.reduceLE, Int.reduceToNat, Int.reduceLT, Int.reduceEq, Int.reduceAdd, Int.reduceSub, Int.reduceMul, Int.reduceNeg]
          refine hK _ _ ⟨f3, f5, fS, fL, hik, rfl, hkp' _ _ hxM hx, ?_, hk1.trans hkp'⟩
          rw [show useX e = [⟨e.name, 4, e.kids.length⟩] by simp [useX, k1, k3, k4], List.foldl_append]; exact hD'
        refine awp_if false (congrArg AV.bool (decide_eq_false k4)) (fun hc => by cases hc) (fun _ => ?_)
        refine awp_skip ?_; simp only [thenQ, blockQ]
        refine hK _ _ ⟨f3, f5, fS, fL, hik, rfl, hx, ?_, hk1⟩
        rw [show useX e = [] by simp [useX, k1, k3, k4], List.append_nil]; exact hD1
      · rintro fr H2 ⟨f3, f5, fS, fL, hik, fx, hx, hD2, hk2⟩
        have j3 := hk2 _ _ hm3 i3
        have j5 := hk2 _ _ hm5 i5
        refine awp_region rfl ?_
        simp only [f5, fx, hx, j5, AL, TY, aq, aint, astr, aWant, isPtr, abnd, ahi, alo, aload, rd, newObj, alit, aparts, astore, amapset, cellsOf, ev, avOf, av1, putF, upd, argF, TK.agg, aapp, asrc, one, aq.abuild, Nat.reduceEqDiff, Nat.reduceAdd, Nat.reduceLT, Nat.reduceLeDiff, Nat.reduceMul, Nat.reduceSub, reduceIte, reduceCtorEq, Int.reduceLE, Int.reduceToNat, Int.reduceLT, Int.reduceEq, Int.reduceAdd, Int.reduceSub, Int.reduceMul, Int.reduceNeg]
        refine awpC_whole (ih _ (by omega) e.kids rfl hoke.kids _ H2 j3 j5 hD2) (SubL.refl _) (fun _ => trivial) fun v H' ⟨hv, hD', hkp'⟩ => ?_
        subst hv
        simp only [thenQ, blockQ, AL, TY, aq, aint, astr, aWant, isPtr, abnd, ahi, alo, aload, rd, newObj, alit, aparts, astore, amapset, cellsOf, ev, avOf, av1, putF, upd, argF, TK.agg, aapp, asrc, one, aq.abuild, Nat.reduceEqDiff, Nat.reduceAdd, Nat.reduceLT, Nat.reduceLeDiff, Nat.reduceMul, Nat.reduceSub, reduceIte, reduceCtorEq, Int.reduceLE, Int.reduceToNat, Int.reduceLT, Int.reduceEq, Int.reduceAdd, Int.reduceSub, Int.reduceMul, Int.reduceNeg]
        refine awp_region rfl ?_; simp only [AL, TY, aq, aint, astr, aWant, isPtr, abnd, ahi, alo, aload, rd, newObj, alit, aparts, astore, amapset, cellsOf, ev, avOf, av1, putF, upd, argF, TK.agg, aapp, asrc, one, aq.abuild, Nat.reduceEqDiff, Nat.reduceAdd, Nat.reduceLT, Nat.reduceLeDiff, Nat.reduceMul, Nat.reduceSub, reduceIte, reduceCtorEq, Int.reduceLE, Int.reduceToNat, Int.reduceLT, Int.reduceEq, Int.reduceAdd, Int.reduceSub, Int.reduceMul, Int.reduceNeg]
        simp only [hik, thenQ, blockQ, AL, TY, aq, aint, astr, aWant, isPtr, abnd, ahi, alo, aload, rd, newObj, alit, aparts, astore, amapset, cellsOf, ev, avOf, av1, putF, upd, argF, TK.agg, aapp, asrc, one, aq.abuild, Nat.reduceEqDiff, Nat.reduceAdd, Nat.reduceLT, Nat.reduceLeDiff, Nat.reduceMul, Nat.reduceSub, reduceIte, reduceCtorEq, Int.reduceLE, Int.reduceToNat, Int.reduceLT, Int.reduceEq, Int.reduceAdd, Int.reduceSub, Int.reduceMul, Int.reduceNeg]
        rw [IntWalk.i64_in _ (by omega)]
        refine hK2 (l.length - (k + 1)) _ _ (by omega) ⟨k + 1, rfl, by omega, rfl, f3, f5, fS, fL, by rw [htk, ← List.append_assoc, List.foldl_append]; exact hD', hk2.trans hkp'⟩
    · refine awp_exit ?_; simp only [thenQ, blockQ, reduceIte, Nat.reduceEqDiff]
      have hknk : k = l.length := by have := of_decide_eq_false hc; omega
      clear hc
      subst hknk
      rw [List.take_length] at hDk
      simp only [bodyQ, aresult, ares]
      exact Gives.whole ⟨rfl, hDk, hkp⟩
set_option maxHeartbeats 4000000 in
theorem visitS_con {σ : Type} {g : FuncId} {caps : List AV} (V : Vis σ g caps) (b3 b5 b4 : Nat) (hm3 : ¬ V.M b3) (hm5 : ¬ V.M b5) (hm4 : ¬ V.M b4) (n : Nat) : ∀ l : List Sm, szS l = n → okS l → ∀ (s : σ) (H : Hp), H b3 = some (.rows 1 [[.fn (.func g) [] caps]]) → H b5 = some (.rows 1 [[.fn (.func 48) [] [.ptr 1 b3 0 0, .ptr 1 b5 0 0]]]) → H b4 = some (.rows 1 [[.fn (.func 49) [] [.ptr 1 b3 0 0, .ptr 1 b5 0 0, .ptr 1 b4 0 0]]]) → V.D s H →
    Con env 49 [.isl 5 (l.map Sm.row), .ptr 1 b3 0 0, .ptr 1 b5 0 0, .ptr 1 b4 0 0] H (fun ae H' => ∃ v, ae = .ret v ∧ (v = .tup [] ∧ V.D ((usesS l).foldl V.step s) H' ∧ keeps V.M H H')) := by
  induction n using Nat.strongRecOn with
  | _ n ih =>
    intro l hn hok s H0 i3 i5 i4 hD
    have hfit : l.length ≤ 9223372036854775807 := hok.fit
    refine con_of 52 [] Try.func49 rfl rfl rfl rfl ?_
    refine awp_seq_k fun K hK => ?_; refine awp_region rfl ?_; simp only [AL, TY, aq, aint, astr, aWant, isPtr, abnd, ahi, alo, aload, rd, newObj, alit, aparts, astore, amapset, cellsOf, ev, avOf, av1, putF, upd, argF, TK.agg, aapp, asrc, one, aq.abuild, Nat.reduceEqDiff, Nat.reduceAdd, Nat.reduceLT, Nat.reduceLeDiff, Nat.reduceMul, Nat.reduceSub, reduceIte, reduceCtorEq, Int.reduceLE, Int.reduceToNat, Int.reduceLT, Int.reduceEq, Int.reduceAdd, Int.reduceSub, Int.reduceMul, Int.reduceNeg]
    simp only [List.length_map, AL, TY, aq, aint, astr, aWant, isPtr, abnd, ahi, alo, aload, rd, newObj, alit, aparts, astore, amapset, cellsOf, ev, avOf, av1, putF, upd, argF, TK.agg, aapp, asrc, one, aq.abuild, Nat.reduceEqDiff, Nat.reduceAdd, Nat.reduceLT, Nat.reduceLeDiff, Nat.reduceMul, Nat.reduceSub, reduceIte, reduceCtorEq, Int.reduceLE, Int.reduceToNat, Int.reduceLT, Int.reduceEq, Int.reduceAdd, Int.reduceSub, Int.reduceMul, Int.reduceNeg]
    refine hK _ _ ?_; clear hK K
    refine awp_block ?_
    refine awp_loopK (fun mm fr H => ∃ k : Nat, mm = l.length - k ∧ k ≤ l.length ∧ fr 9 = .int .i64 k ∧ fr 1 = .ptr 1 b3 0 0 ∧ fr 2 = .ptr 1 b5 0 0 ∧ fr 3 = .ptr 1 b4 0 0 ∧ fr 7 = .isl 5 (l.map Sm.row) ∧ fr 8 = .int .i64 l.length ∧ V.D ((usesS (l.take k)).foldl V.step s) H ∧ keeps V.M H0 H) (l.length) ⟨0, rfl, Nat.zero_le _, rfl, rfl, rfl, rfl, rfl, rfl, by simpa [usesS] using hD, keeps.refl _ _⟩ ?_
    rintro mm fr H ⟨k, rfl, hkk, hik, f3, f5, f4p, fS, fL, hDk, hkp⟩ K2 hK2
    refine awp_seq_k fun K hK => ?_; refine awp_region rfl ?_; simp only [AL, TY, aq, aint, astr, aWant, isPtr, abnd, ahi, alo, aload, rd, newObj, alit, aparts, astore, amapset, cellsOf, ev, avOf, av1, putF, upd, argF, TK.agg, aapp, asrc, one, aq.abuild, Nat.reduceEqDiff, Nat.reduceAdd, Nat.reduceLT, Nat.reduceLeDiff, Nat.reduceMul, Nat.reduceSub, reduceIte, reduceCtorEq, Int.reduceLE, Int.reduceToNat, Int.reduceLT, Int.reduceEq, Int.reduceAdd, Int.reduceSub, Int.reduceMul, Int.reduceNeg]
    simp only [hik, fL,List.length_map, AL, TY, aq, aint, astr, aWant, isPtr, abnd, ahi, alo, aload, rd, newObj, alit, aparts, astore, amapset, cellsOf, ev, avOf, av1, putF, upd, argF, TK.agg, aapp, asrc, one, aq.abuild, Nat.reduceEqDiff, Nat.reduceAdd, Nat.reduceLT, Nat.reduceLeDiff, Nat.reduceMul, Nat.reduceSub, reduceIte, reduceCtorEq, Int.reduceLE, Int.reduceToNat, Int.reduceLT, Int.reduceEq, Int.reduceAdd, Int.reduceSub, Int.reduceMul, Int.reduceNeg]
    refine hK _ _ ?_; clear hK K
    refine awp_seq ?_
    refine awp_if _ rfl (fun hc => ?_) (fun hc => ?_)
    · have hltk : k < l.length := by have := of_decide_eq_true hc; omega
      clear hc
      refine awp_skip ?_; simp only [thenQ, blockQ]
      refine awp_seq ?_
      refine awp_block ?_
      have hg := getS (List.getElem?_eq_getElem hltk)
      have hmem := List.getElem_mem hltk
      have hoke := hok.all _ hmem
      have hsz := szS_mem hmem
      have htk := usesS_take hltk
      generalize l[k] = e at hg htk hoke hsz
      have hse := e.sz_eq
      have j3 := hkp _ _ hm3 i3
      have j5 := hkp _ _ hm5 i5
      have j4 := hkp _ _ hm4 i4
      refine awp_seq_k fun K hK => ?_; refine awp_region rfl ?_; simp only [AL, TY, aq, aint, astr, aWant, isPtr, abnd, ahi, alo, aload, rd, newObj, alit, aparts, astore, amapset, cellsOf, ev, avOf, av1, putF, upd, argF, TK.agg, aapp, asrc, one, aq.abuild, Nat.reduceEqDiff, Nat.reduceAdd, Nat.reduceLT, Nat.reduceLeDiff, Nat.reduceMul, Nat.reduceSub, reduceIte, reduceCtorEq, Int.reduceLE, Int.reduceToNat, Int.reduceLT, Int.reduceEq, Int.reduceAdd, Int.reduceSub, Int.reduceMul, Int.reduceNeg]
      simp only [hik, fS, hg, AL, TY, aq, aint, astr, aWant, isPtr, abnd, ahi, alo, aload, rd, newObj, alit, aparts, astore, amapset, cellsOf, ev, avOf, av1, putF, upd, argF, TK.agg, aapp, asrc, one, aq.abuild, Nat.reduceEqDiff, Nat.reduceAdd, Nat.reduceLT, Nat.reduceLeDiff, Nat.reduceMul, Nat.reduceSub, reduceIte, reduceCtorEq, Int.reduceLE, Int.reduceToNat, Int.reduceLT, Int.reduceEq, Int.reduceAdd, Int.reduceSub, Int.reduceMul, Int.reduceNeg]
      refine awpN_intro fun bx hbx => ?_
      simp only [AL, TY, aq, aint, astr, aWant, isPtr, abnd, ahi, alo, aload, rd, newObj, alit, aparts, astore, amapset, cellsOf, ev, avOf, av1, putF, upd, argF, TK.agg, aapp, asrc, one, aq.abuild, Nat.reduceEqDiff, Nat.reduceAdd, Nat.reduceLT, Nat.reduceLeDiff, Nat.reduceMul, Nat.reduceSub, reduceIte, reduceCtorEq, Int.reduceLE, Int.reduceToNat, Int.reduceLT, Int.reduceEq, Int.reduceAdd, Int.reduceSub, Int.reduceMul, Int.reduceNeg]
      refine hK _ _ ?_; clear hK K
      have hxM : ¬ V.M bx := fun hm => V.old _ _ hDk bx hm hbx
      have hx : (upd (upd H bx (some (.rows 5 [[.int .i64 0, .str [], .nsl, .nsl, .nsl]]))) bx (some (.rows 5 [[.int .i64 e.kind, .str e.name, .isl 5 (e.es.map Ex.row), .isl 5 (e.thn.map Sm.row), .isl 5 (e.els.map Sm.row)]]))) bx = some (.rows 5 [[.int .i64 e.kind, .str e.name, .isl 5 (e.es.map Ex.row), .isl 5 (e.thn.map Sm.row), .isl 5 (e.els.map Sm.row)]]) := upd_same _ _ _
      have hkx : keeps (fun _ => False) H (upd (upd H bx (some (.rows 5 [[.int .i64 0, .str [], .nsl, .nsl, .nsl]]))) bx (some (.rows 5 [[.int .i64 e.kind, .str e.name, .isl 5 (e.es.map Ex.row), .isl 5 (e.thn.map Sm.row), .isl 5 (e.els.map Sm.row)]]))) := ((keeps.refl _ H).new hbx _).new hbx _
      generalize (upd (upd H bx (some (.rows 5 [[.int .i64 0, .str [], .nsl, .nsl, .nsl]]))) bx (some (.rows 5 [[.int .i64 e.kind, .str e.name, .isl 5 (e.es.map Ex.row), .isl 5 (e.thn.map Sm.row), .isl 5 (e.els.map Sm.row)]]))) = H1 at hx hkx ⊢
      have hD1 := V.ext _ _ _ hDk hkx
      have hk1 : keeps V.M H0 H1 := hkp.trans (hkx.mono fun _ h => h.elim)
      have j3 := hkx _ _ (fun h => h) j3
      have j5 := hkx _ _ (fun h => h) j5
      have j4 := hkx _ _ (fun h => h) j4
      refine awp_cutK (fun fr H => fr 1 = .ptr 1 b3 0 0 ∧ fr 2 = .ptr 1 b5 0 0 ∧ fr 3 = .ptr 1 b4 0 0 ∧ fr 7 = .isl 5 (l.map Sm.row) ∧ fr 8 = .int .i64 l.length ∧ fr 9 = .int .i64 k ∧ fr 6 = .ptr 5 bx 0 0 ∧ H bx = some (.rows 5 [[.int .i64 e.kind, .str e.name, .isl 5 (e.es.map Ex.row), .isl 5 (e.thn.map Sm.row), .isl 5 (e.els.map Sm.row)]]) ∧ V.D ((usesS (l.take k) ++ useS e).foldl V.step s) H ∧ keeps V.M H0 H) (fun K hK => ?_) ?_
      · refine awp_seq_k fun K hK => ?_; refine awp_region rfl ?_; simp only [AL, TY, aq, aint, astr, aWant, isPtr, abnd, ahi, alo, aload, rd, newObj, alit, aparts, astore, amapset, cellsOf, ev, avOf, av1, putF, upd, argF, TK.agg, aapp, asrc, one, aq.abuild, Nat.reduceEqDiff, Nat.reduceAdd, Nat.reduceLT, Nat.reduceLeDiff, Nat.reduceMul, Nat.reduceSub, reduceIte, reduceCtorEq, Int.reduceLE, Int.reduceToNat, Int.reduceLT, Int.reduceEq, Int.reduceAdd, Int.reduceSub, Int.reduceMul, Int.reduceNeg]
        simp only [hx, AL, TY, aq, aint, astr, aWant, isPtr, abnd, ahi, alo, aload, rd, newObj, alit, aparts, astore, amapset, cellsOf, ev, avOf, av1, putF, upd, argF, TK.agg, aapp, asrc, one, aq.abuild, Nat.reduceEqDiff, Nat.reduceAdd, Nat.reduceLT, Nat.reduceLeDiff, Nat.reduceMul, Nat.reduceSub, reduceIte, reduceCtorEq, Int.reduceLE, Int.reduceToNat, Int.reduceLT, Int.reduceEq, Int.reduceAdd, Int.reduceSub, Int.reduceMul, Int.reduceNeg]
        refine hK _ _ ?_; clear hK K
        refine awp_block ?_
        refine awp_seq_k fun K hK => ?_; refine awp_region rfl ?_; simp only [AL, TY, aq, aint, astr, aWant, isPtr, abnd, ahi, alo, aload, rd, newObj, alit, aparts, astore, amapset, cellsOf, ev, avOf, av1, putF, upd, argF, TK.agg, aapp, asrc, one, aq.abuild, Nat.reduceEqDiff, Nat.reduceAdd, Nat.reduceLT, Nat.reduceLeDiff, Nat.reduceMul, Nat.reduceSub, reduceIte, reduceCtorEq, Int.reduceLE, Int.reduceToNat, Int.reduceLT, Int.reduceEq, Int.reduceAdd, Int.reduceSub, Int.reduceMul, Int.reduceNeg]
        refine hK _ _ ?_; clear hK K
        by_cases k1 : e.kind = 1
        · refine awp_if true (congrArg AV.bool (decide_eq_true k1)) (fun _ => ?_) (fun hc => by cases hc)
          refine awp_region rfl ?_
          simp only [f3, j3, hx, List.length_map, AL, TY, aq, aint, astr, aWant, isPtr, abnd, ahi, alo, aload, rd, newObj, alit, aparts, astore, amapset, cellsOf, ev, avOf, av1, putF, upd, argF, TK.agg, aapp, asrc, one, aq.abuild, Nat.reduceEqDiff, Nat.reduceAdd, Nat.reduceLT, Nat.reduceLeDiff, Nat.reduceMul, Nat.reduceSub, reduceIte, reduceCtorEq, Int.reduceLE, Int.reduceToNat, Int.reduceLT, Int.reduceEq, Int.reduceAdd, Int.reduceSub, Int.reduceMul, Int.reduceNeg]
          refine awpC_whole (V.spec ((usesS (l.take k)).foldl V.step s) H1 ⟨e.name, 1, 0⟩ (by simp) hD1) (SubL.refl _) (fun _ => trivial) fun v H' ⟨hv, hD', hkp'⟩ => ?_
          subst hv
          simp only [thenQ, blockQ, AL, TY, aq, aint, astr, aWant, isPtr, abnd, ahi, alo, aload, rd, newObj, alit, aparts, astore, amapset, cellsOf, ev, avOf, av1, putF, upd, argF, TK.agg, aapp, asrc, one, aq.abuild, Nat.reduceEqDiff, Nat.reduceAdd, Nat.reduceLT, Nat.reduceLeDiff, Nat.reduceMul, Nat.reduceSub, reduceIte, reduceCtorEq, Int.reduceLE, Int.reduceToNat, Int.reduceLT, Int.reduceEq, Int.reduceAdd, Int.reduceSub, Int.reduceMul, Int.reduceNeg]
          refine hK _ _ ⟨f3, f5, f4p, fS, fL, hik, rfl, hkp' _ _ hxM hx, ?_, hk1.trans hkp'⟩
          rw [show useS e = [⟨e.name, 1, 0⟩] by simp [useS, k1], List.foldl_append]; exact hD'
        refine awp_if false (congrArg AV.bool (decide_eq_false k1)) (fun hc => by cases hc) (fun _ => ?_)
        refine awp_seq_k fun K hK => ?_; refine awp_region rfl ?_; simp only [AL, TY, aq, aint, astr, aWant, isPtr, abnd, ahi, alo, aload, rd, newObj, alit, aparts, astore, amapset, cellsOf, ev, avOf, av1, putF, upd, argF, TK.agg, aapp, asrc, one, aq.abuild, Nat.reduceEqDiff, Nat.reduceAdd, Nat.reduceLT, Nat.reduceLeDiff, Nat.reduceMul, Nat.reduceSub, reduceIte, reduceCtorEq, Int.reduceLE, Int.reduceToNat, Int.reduceLT, Int.reduceEq, Int.reduceAdd, Int.reduceSub, Int.reduceMul, Int.reduceNeg]
        refine hK _ _ ?_; clear hK K
        by_cases k3 : e.kind = 2
        · refine awp_if true (congrArg AV.bool (decide_eq_true k3)) (fun _ => ?_) (fun hc => by cases hc)
          refine awp_region rfl ?_
          simp only [f3, j3, hx, List.length_map, AL, TY, aq, aint, astr, aWant, isPtr, abnd, ahi, alo, aload, rd, newObj, alit, aparts, astore, amapset, cellsOf, ev, avOf, av1, putF, upd, argF, TK.agg, aapp, asrc, one, aq.abuild, Nat.reduceEqDiff, Nat.reduceAdd, Nat.reduceLT, Nat.reduceLeDiff, Nat.reduceMul, Nat.reduceSub, reduceIte, reduceCtorEq, Int.reduceLE, Int.reduceToNat, Int.reduceLT, Int.reduceEq, Int.reduceAdd, Int.reduceSub, Int.reduceMul, Int.reduceNeg]
          refine awpC_whole (V.spec ((usesS (l.take k)).foldl V.step s) H1 ⟨e.name, 3, 0⟩ (by simp) hD1) (SubL.refl _) (fun _ => trivial) fun v H' ⟨hv, hD', hkp'⟩ => ?_
          subst hv
          simp only [thenQ, blockQ, AL, TY, aq, aint, astr, aWant, isPtr, abnd, ahi, alo, aload, rd, newObj, alit, aparts, astore, amapset, cellsOf, ev, avOf, av1, putF, upd, argF, TK.agg, aapp, asrc, one, aq.abuild, Nat.reduceEqDiff, Nat.reduceAdd, Nat.reduceLT, Nat.reduceLeDiff, Nat.reduceMul, Nat.reduceSub, reduceIte, reduceCtorEq, Int.reduceLE, Int.reduceToNat, Int.reduceLT, Int.reduceEq, Int.reduceAdd, Int.reduceSub, Int.reduceMul, Int.reduceNeg]
          refine hK _ _ ⟨f3, f5, f4p, fS, fL, hik, rfl, hkp' _ _ hxM hx, ?_, hk1.trans hkp'⟩
          rw [show useS e = [⟨e.name, 3, 0⟩] by simp [useS, k1, k3], List.foldl_append]; exact hD'
        refine awp_if false (congrArg AV.bool (decide_eq_false k3)) (fun hc => by cases hc) (fun _ => ?_)
        refine awp_seq_k fun K hK => ?_; refine awp_region rfl ?_; simp only [AL, TY, aq, aint, astr, aWant, isPtr, abnd, ahi, alo, aload, rd, newObj, alit, aparts, astore, amapset, cellsOf, ev, avOf, av1, putF, upd, argF, TK.agg, aapp, asrc, one, aq.abuild, Nat.reduceEqDiff, Nat.reduceAdd, Nat.reduceLT, Nat.reduceLeDiff, Nat.reduceMul, Nat.reduceSub, reduceIte, reduceCtorEq, Int.reduceLE, Int.reduceToNat, Int.reduceLT, Int.reduceEq, Int.reduceAdd, Int.reduceSub, Int.reduceMul, Int.reduceNeg]
        refine hK _ _ ?_; clear hK K
        by_cases k4 : e.kind = 6
        · refine awp_if true (congrArg AV.bool (decide_eq_true k4)) (fun _ => ?_) (fun hc => by cases hc)
          refine awp_region rfl ?_
          simp only [f3, j3, hx, List.length_map, AL, TY, aq, aint, astr, aWant, isPtr, abnd, ahi, alo, aload, rd, newObj, alit, aparts, astore, amapset, cellsOf, ev, avOf, av1, putF, upd, argF, TK.agg, aapp, asrc, one, aq.abuild, Nat.reduceEqDiff, Nat.reduceAdd, Nat.reduceLT, Nat.reduceLeDiff, Nat.reduceMul, Nat.reduceSub, reduceIte, reduceCtorEq, Int.reduceLE, Int.reduceToNat, Int.reduceLT, Int.reduceEq, Int.reduceAdd, Int.reduceSub, Int.reduceMul, Int.reduceNeg]
          refine awpC_whole (V.spec ((usesS (l.take k)).foldl V.step s) H1 ⟨e.name, 4, e.es.length⟩ (by simp) hD1) (SubL.refl _) (fun _ => trivial) fun v H' ⟨hv, hD', hkp'⟩ => ?_
          subst hv
          simp only [thenQ, blockQ, AL, TY, aq, aint, astr, aWant, isPtr, abnd, ahi, alo, aload, rd, newObj, alit, aparts, astore, amapset, cellsOf, ev, avOf, av1, putF, upd, argF, TK.agg, aapp, asrc, one, aq.abuild, Nat.reduceEqDiff, Nat.reduceAdd, Nat.reduceLT, Nat.reduceLeDiff, Nat.reduceMul, Nat.reduceSub, reduceIte, reduceCtorEq, Int.reduceLE, Int.reduceToNat, Int.reduceLT, Int.reduceEq, Int.reduceAdd, Int.reduceSub, Int.reduceMul, Int.reduceNeg]
          refine hK _ _ ⟨f3, f5, f4p, fS, fL, hik, rfl, hkp' _ _ hxM hx, ?_, hk1.trans hkp'⟩
          rw [show useS e = [⟨e.name, 4, e.es.length⟩] by simp [useS, k1, k3, k4], List.foldl_append]; exact hD'
        refine awp_if false (congrArg AV.bool (decide_eq_false k4)) (fun hc => by cases hc) (fun _ => ?_)
        refine awp_skip ?_; simp only [thenQ, blockQ]
        refine hK _ _ ⟨f3, f5, f4p, fS, fL, hik, rfl, hx, ?_, hk1⟩
        rw [show useS e = [] by simp [useS, k1, k3, k4], List.append_nil]; exact hD1
      · rintro fr H2 ⟨f3, f5, f4p, fS, fL, hik, fx, hx, hD2, hk2⟩
        have j3 := hk2 _ _ hm3 i3
        have j5 := hk2 _ _ hm5 i5
        have j4 := hk2 _ _ hm4 i4
        refine awp_seq_k fun K hK => ?_; refine awp_region rfl ?_; simp only [AL, TY, aq, aint, astr, aWant, isPtr, abnd, ahi, alo, aload, rd, newObj, alit, aparts, astore, amapset, cellsOf, ev, avOf, av1, putF, upd, argF, TK.agg, aapp, asrc, one, aq.abuild, Nat.reduceEqDiff, Nat.reduceAdd, Nat.reduceLT, Nat.reduceLeDiff, Nat.reduceMul, Nat.reduceSub, reduceIte, reduceCtorEq, Int.reduceLE, Int.reduceToNat, Int.reduceLT, Int.reduceEq, Int.reduceAdd, Int.reduceSub, Int.reduceMul, Int.reduceNeg]
        simp only [f5, fx, hx, j5, AL, TY, aq, aint, astr, aWant, isPtr, abnd, ahi, alo, aload, rd, newObj, alit, aparts, astore, amapset, cellsOf, ev, avOf, av1, putF, upd, argF, TK.agg, aapp, asrc, one, aq.abuild, Nat.reduceEqDiff, Nat.reduceAdd, Nat.reduceLT, Nat.reduceLeDiff, Nat.reduceMul, Nat.reduceSub, reduceIte, reduceCtorEq, Int.reduceLE, Int.reduceToNat, Int.reduceLT, Int.reduceEq, Int.reduceAdd, Int.reduceSub, Int.reduceMul, Int.reduceNeg]
        refine awpC_whole (visitE_con V b3 b5 hm3 hm5 _ e.es rfl hoke.es _ H2 j3 j5 hD2) (SubL.refl _) (fun _ => trivial) fun v H3 ⟨hv, hD3, hkp3⟩ => ?_
        subst hv
        simp only [AL, TY, aq, aint, astr, aWant, isPtr, abnd, ahi, alo, aload, rd, newObj, alit, aparts, astore, amapset, cellsOf, ev, avOf, av1, putF, upd, argF, TK.agg, aapp, asrc, one, aq.abuild, Nat.reduceEqDiff, Nat.reduceAdd, Nat.reduceLT, Nat.reduceLeDiff, Nat.reduceMul, Nat.reduceSub, reduceIte, reduceCtorEq, Int.reduceLE, Int.reduceToNat, Int.reduceLT, Int.reduceEq, Int.reduceAdd, Int.reduceSub, Int.reduceMul, Int.reduceNeg]
        refine hK _ _ ?_; clear hK K
        have hx := hkp3 _ _ hxM hx
        have j3 := hkp3 _ _ hm3 j3
        have j5 := hkp3 _ _ hm5 j5
        have j4 := hkp3 _ _ hm4 j4
        refine awp_seq_k fun K hK => ?_; refine awp_region rfl ?_; simp only [AL, TY, aq, aint, astr, aWant, isPtr, abnd, ahi, alo, aload, rd, newObj, alit, aparts, astore, amapset, cellsOf, ev, avOf, av1, putF, upd, argF, TK.agg, aapp, asrc, one, aq.abuild, Nat.reduceEqDiff, Nat.reduceAdd, Nat.reduceLT, Nat.reduceLeDiff, Nat.reduceMul, Nat.reduceSub, reduceIte, reduceCtorEq, Int.reduceLE, Int.reduceToNat, Int.reduceLT, Int.reduceEq, Int.reduceAdd, Int.reduceSub, Int.reduceMul, Int.reduceNeg]
        simp only [f4p, fx, hx, j4, AL, TY, aq, aint, astr, aWant, isPtr, abnd, ahi, alo, aload, rd, newObj, alit, aparts, astore, amapset, cellsOf, ev, avOf, av1, putF, upd, argF, TK.agg, aapp, asrc, one, aq.abuild, Nat.reduceEqDiff, Nat.reduceAdd, Nat.reduceLT, Nat.reduceLeDiff, Nat.reduceMul, Nat.reduceSub, reduceIte, reduceCtorEq, Int.reduceLE, Int.reduceToNat, Int.reduceLT, Int.reduceEq, Int.reduceAdd, Int.reduceSub, Int.reduceMul, Int.reduceNeg]
        refine awpC_whole (ih _ (by omega) e.thn rfl hoke.thn _ H3 j3 j5 j4 hD3) (SubL.refl _) (fun _ => trivial) fun v H4 ⟨hv, hD4, hkp4⟩ => ?_
        subst hv
        simp only [AL, TY, aq, aint, astr, aWant, isPtr, abnd, ahi, alo, aload, rd, newObj, alit, aparts, astore, amapset, cellsOf, ev, avOf, av1, putF, upd, argF, TK.agg, aapp, asrc, one, aq.abuild, Nat.reduceEqDiff, Nat.reduceAdd, Nat.reduceLT, Nat.reduceLeDiff, Nat.reduceMul, Nat.reduceSub, reduceIte, reduceCtorEq, Int.reduceLE, Int.reduceToNat, Int.reduceLT, Int.reduceEq, Int.reduceAdd, Int.reduceSub, Int.reduceMul, Int.reduceNeg]
        refine hK _ _ ?_; clear hK K
        have hx := hkp4 _ _ hxM hx
        have j3 := hkp4 _ _ hm3 j3
        have j5 := hkp4 _ _ hm5 j5
        have j4 := hkp4 _ _ hm4 j4
        refine awp_region rfl ?_
        simp only [f4p, fx, hx, j4, AL, TY, aq, aint, astr, aWant, isPtr, abnd, ahi, alo, aload, rd, newObj, alit, aparts, astore, amapset, cellsOf, ev, avOf, av1, putF, upd, argF, TK.agg, aapp, asrc, one, aq.abuild, Nat.reduceEqDiff, Nat.reduceAdd, Nat.reduceLT, Nat.reduceLeDiff, Nat.reduceMul, Nat.reduceSub, reduceIte, reduceCtorEq, Int.reduceLE, Int.reduceToNat, Int.reduceLT, Int.reduceEq, Int.reduceAdd, Int.reduceSub, Int.reduceMul, Int.reduceNeg]
        refine awpC_whole (ih _ (by omega) e.els rfl hoke.els _ H4 j3 j5 j4 hD4) (SubL.refl _) (fun _ => trivial) fun v H' ⟨hv, hD', hkp'⟩ => ?_
        subst hv
        simp only [thenQ, blockQ, AL, TY, aq, aint, astr, aWant, isPtr, abnd, ahi, alo, aload, rd, newObj, alit, aparts, astore, amapset, cellsOf, ev, avOf, av1, putF, upd, argF, TK.agg, aapp, asrc, one, aq.abuild, Nat.reduceEqDiff, Nat.reduceAdd, Nat.reduceLT, Nat.reduceLeDiff, Nat.reduceMul, Nat.reduceSub, reduceIte, reduceCtorEq, Int.reduceLE, Int.reduceToNat, Int.reduceLT, Int.reduceEq, Int.reduceAdd, Int.reduceSub, Int.reduceMul, Int.reduceNeg]
        refine awp_region rfl ?_; simp only [AL, TY, aq, aint, astr, aWant, isPtr, abnd, ahi, alo, aload, rd, newObj, alit, aparts, astore, amapset, cellsOf, ev, avOf, av1, putF, upd, argF, TK.agg, aapp, asrc, one, aq.abuild, Nat.reduceEqDiff, Nat.reduceAdd, Nat.reduceLT, Nat.reduceLeDiff, Nat.reduceMul, Nat.reduceSub, reduceIte, reduceCtorEq, Int.reduceLE, Int.reduceToNat, Int.reduceLT, Int.reduceEq, Int.reduceAdd, Int.reduceSub, Int.reduceMul, Int.reduceNeg]
        simp only [hik, thenQ, blockQ, AL, TY, aq, aint, astr, aWant, isPtr, abnd, ahi, alo, aload, rd, newObj, alit, aparts, astore, amapset, cellsOf, ev, avOf, av1, putF, upd, argF, TK.agg, aapp, asrc, one, aq.abuild, Nat.reduceEqDiff, Nat.reduceAdd, Nat.reduceLT, Nat.reduceLeDiff, Nat.reduceMul, Nat.reduceSub, reduceIte, reduceCtorEq, Int.reduceLE, Int.reduceToNat, Int.reduceLT, Int.reduceEq, Int.reduceAdd, Int.reduceSub, Int.reduceMul, Int.reduceNeg]
        rw [IntWalk.i64_in _ (by omega)]
        refine hK2 (l.length - (k + 1)) _ _ (by omega) ⟨k + 1, rfl, by omega, rfl, f3, f5, f4p, fS, fL, by rw [htk, ← List.append_assoc, ← List.append_assoc, ← List.append_assoc, List.foldl_append, List.foldl_append, List.foldl_append]; exact hD', ((hk2.trans hkp3).trans hkp4).trans hkp'⟩
    · refine awp_exit ?_; simp only [thenQ, blockQ, reduceIte, Nat.reduceEqDiff]
      have hknk : k = l.length := by have := of_decide_eq_false hc; omega
      clear hc
      subst hknk
      rw [List.take_length] at hDk
      simp only [bodyQ, aresult, ares]
      exact Gives.whole ⟨rfl, hDk, hkp⟩
end Go.Proofs.Ytnbokmbjiioooaa
