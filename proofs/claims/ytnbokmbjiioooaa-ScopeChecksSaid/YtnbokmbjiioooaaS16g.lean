/- Chapter 16, the program's: what names are, as maps. -/
import Derived.Test.YtnbokmbjiioooaaS16f
set_option linter.unusedSimpArgs false
set_option linter.unusedVariables false
namespace Go.Al
/-- a name, what it is, its number -/
structure Th where
  name : Str
  kind : Int
  num : Int
def thV (k n : Int) : AV := .agg [.int .i64 k, .int .i64 n]
def ent (t : Th) : AV × AV := (.str t.name, thV t.kind t.num)
def lookT : List Th → Str → Option (Int × Int)
  | [], _ => none
  | t :: l, s => if s = t.name then some (t.kind, t.num) else lookT l s
def addT (m : List Th) (t : Th) : List Th := if (lookT m t.name).isSome then m else m ++ [t]
def addB (m : List Th) (u : Bool) (t : Th) : Bool := if (lookT m t.name).isSome then false else u
theorem afind_look (s : Str) : ∀ (m : List Th) (i : Nat), ∃ r, afind (.str s) (m.map ent) i = some r ∧ r.map (·.2) = (lookT m s).map (fun p => thV p.1 p.2)
  | [], i => ⟨none, rfl, rfl⟩
  | t :: m, i => by
    simp only [List.map_cons, ent, afind, akey, lookT]
    by_cases h : s = t.name
    · simp only [h, decide_true, if_true]
      exact ⟨_, rfl, rfl⟩
    · simp only [h, decide_false, if_false]
      exact afind_look s m (i + 1)
theorem lookT_app (s : Str) : ∀ (m : List Th) (t : Th), lookT (m ++ [t]) s = match lookT m s with | some p => some p | none => if s = t.name then some (t.kind, t.num) else none
  | [], t => by simp only [List.nil_append, lookT]
  | u :: m, t => by
    simp only [List.cons_append, lookT]
    by_cases h : s = u.name
    · simp only [h, if_true]
    · simp only [h, if_false]; exact lookT_app s m t
/-- what is added one by one -/
def thsM (l : List Th) : List Th := l.foldl addT []
def thsB (l : List Th) : Bool := (l.foldl (fun (p : List Th × Bool) t => (addT p.1 t, addB p.1 p.2 t)) ([], true)).2
end Go.Al
namespace Go.Proofs.Ytnbokmbjiioooaa
open Go.Al
/-- a map of things that a cell names, and a truth value -/
def addI (bm bu b : Nat) (m : List Th) (u : Bool) (H : Hp) : Prop := H bm = some (.rows 1 [[.mp b]]) ∧ H bu = some (.rows 1 [[.bool u]]) ∧ H b = some (.amap (m.map ent))
theorem gadd_con (t : Th) (bm bu b : Nat) (m : List Th) (u : Bool) (H : Hp) (h : addI bm bu b m u H) :
    Con env 46 [.str t.name, thV t.kind t.num, .ptr 1 bm 0 0, .ptr 1 bu 0 0] H (fun ae H' => ∃ v, ae = .ret v ∧ (v = .tup [] ∧ addI bm bu b (addT m t) (addB m u t) H' ∧ keeps (fun x => x = bu ∨ x = b) H H')) := by
  obtain ⟨h1, h2, h3⟩ := h
  have n1 : bm ≠ bu := fun e => by rw [e, h2] at h1; simp at h1
  have n2 : bm ≠ b := fun e => by rw [e, h3] at h1; simp at h1
  have n3 : bu ≠ b := fun e => by rw [e, h3] at h2; simp at h2
  refine con_of 18 [] Try.func46 rfl rfl rfl rfl ?_
  simp only [thV]
  refine awp_cutK (fun fr H' => ∃ b5, fr 0 = .str t.name ∧ fr 2 = .ptr 1 bm 0 0 ∧ fr 3 = .ptr 1 bu 0 0 ∧ fr 5 = .ptr 2 b5 0 0 ∧ H' b5 = some (.rows 2 [[.int .i64 t.kind, .int .i64 t.num]]) ∧ keeps (fun _ => False) H H') (fun K hK => ?_) ?_
  · refine awp_region rfl ?_; simp only [AL, TY, aq, aint, astr, aWant, isPtr, abnd, ahi, alo, aload, rd, newObj, alit, aparts, astore, amapset, cellsOf, ev, avOf, av1, putF, upd, argF, TK.agg, aapp, asrc, one, aq.abuild, Nat.reduceEqDiff, Nat.reduceAdd, Nat.reduceLT, Nat.reduceLeDiff, Nat.reduceMul, Nat.reduceSub, reduceIte, reduceCtorEq, Int.reduceLE, Int.reduceToNat, Int.reduceLT, Int.reduceEq, Int.reduceAdd, Int.reduceSub, Int.reduceMul, Int.reduceNeg]
    refine awpN_intro fun b5 hb5 => ?_
    simp only [AL, TY, aq, aint, astr, aWant, isPtr, abnd, ahi, alo, aload, rd, newObj, alit, aparts, astore, amapset, cellsOf, ev, avOf, av1, putF, upd, argF, TK.agg, aapp, asrc, one, aq.abuild, Nat.reduceEqDiff, Nat.reduceAdd, Nat.reduceLT, Nat.reduceLeDiff, Nat.reduceMul, Nat.reduceSub, reduceIte, reduceCtorEq, Int.reduceLE, Int.reduceToNat, Int.reduceLT, Int.reduceEq, Int.reduceAdd, Int.reduceSub, Int.reduceMul, Int.reduceNeg]
    exact hK _ _ ⟨b5, rfl, rfl, rfl, rfl, upd_same _ _ _, (keeps.refl _ H).new hb5 _⟩
  rintro fr H1 ⟨b5, f0, f2, f3, f5, hb5, hk⟩
  have k1 := hk _ _ (fun h => h) h1
  have k2 := hk _ _ (fun h => h) h2
  have k3 := hk _ _ (fun h => h) h3
  obtain ⟨r, hr, hr2⟩ := afind_look t.name m 0
  have hnew : ∀ x o, H1 x = none → keeps (fun _ => False) H (upd H1 x o) := fun x o hx b' o' _ hb' => by
    have := hk b' o' (fun h => h) hb'
    have hne : b' ≠ x := fun e => by rw [e, hx] at this; cases this
    simp only [upd, if_neg hne]; exact this
  cases hl : lookT m t.name with
  | some q =>
    rw [hl] at hr2
    obtain ⟨p, rfl, hp⟩ : ∃ p, r = some p ∧ p.2 = thV q.1 q.2 := by
      cases r with
      | none => simp at hr2
      | some p => exact ⟨p, rfl, by simpa using hr2⟩
    refine awp_seq ?_
    refine awp_seq_k fun K hK => ?_; refine awp_region rfl ?_; simp only [AL, TY, aq, aint, astr, aWant, isPtr, abnd, ahi, alo, aload, rd, newObj, alit, aparts, astore, amapset, cellsOf, ev, avOf, av1, putF, upd, argF, TK.agg, aapp, asrc, one, aq.abuild, Nat.reduceEqDiff, Nat.reduceAdd, Nat.reduceLT, Nat.reduceLeDiff, Nat.reduceMul, Nat.reduceSub, reduceIte, reduceCtorEq, Int.reduceLE, Int.reduceToNat, Int.reduceLT, Int.reduceEq, Int.reduceAdd, Int.reduceSub, Int.reduceMul, Int.reduceNeg]
    simp only [f0, f2, k1, k3, hr, hp, thV, Option.getD_some, AL, TY, aq, aint, astr, aWant, isPtr, abnd, ahi, alo, aload, rd, newObj, alit, aparts, astore, amapset, cellsOf, ev, avOf, av1, putF, upd, argF, TK.agg, aapp, asrc, one, aq.abuild, Nat.reduceEqDiff, Nat.reduceAdd, Nat.reduceLT, Nat.reduceLeDiff, Nat.reduceMul, Nat.reduceSub, reduceIte, reduceCtorEq, Int.reduceLE, Int.reduceToNat, Int.reduceLT, Int.reduceEq, Int.reduceAdd, Int.reduceSub, Int.reduceMul, Int.reduceNeg]
    refine awpN_intro fun b6 hb6 => ?_
    simp only [AL, TY, aq, aint, astr, aWant, isPtr, abnd, ahi, alo, aload, rd, newObj, alit, aparts, astore, amapset, cellsOf, ev, avOf, av1, putF, upd, argF, TK.agg, aapp, asrc, one, aq.abuild, Nat.reduceEqDiff, Nat.reduceAdd, Nat.reduceLT, Nat.reduceLeDiff, Nat.reduceMul, Nat.reduceSub, reduceIte, reduceCtorEq, Int.reduceLE, Int.reduceToNat, Int.reduceLT, Int.reduceEq, Int.reduceAdd, Int.reduceSub, Int.reduceMul, Int.reduceNeg]
    refine hK _ _ ?_; clear hK K
    have hH : (upd (upd H1 b6 (some (.rows 2 [[.int .i64 0, .int .i64 0]]))) b6 (some (.rows 2 [[.int .i64 q.1, .int .i64 q.2]]))) bu = some (.rows 1 [[.bool u]]) := by
      have : bu ≠ b6 := fun e => by rw [e, hb6] at k2; cases k2
      simp only [upd, if_neg this]; exact k2
    have hK2 : keeps (fun _ => False) H (upd (upd H1 b6 (some (.rows 2 [[.int .i64 0, .int .i64 0]]))) b6 (some (.rows 2 [[.int .i64 q.1, .int .i64 q.2]]))) := by
      intro b' o' _ hb'
      have h5 := hk b' o' (fun h => h) hb'
      have : b' ≠ b6 := fun e => by rw [e, hb6] at h5; cases h5
      simp only [upd, if_neg this]; exact h5
    generalize (upd (upd H1 b6 (some (.rows 2 [[.int .i64 0, .int .i64 0]]))) b6 (some (.rows 2 [[.int .i64 q.1, .int .i64 q.2]]))) = H2 at hH hK2 ⊢
    refine awp_seq_k fun K hK => ?_; refine awp_region rfl ?_; simp only [AL, TY, aq, aint, astr, aWant, isPtr, abnd, ahi, alo, aload, rd, newObj, alit, aparts, astore, amapset, cellsOf, ev, avOf, av1, putF, upd, argF, TK.agg, aapp, asrc, one, aq.abuild, Nat.reduceEqDiff, Nat.reduceAdd, Nat.reduceLT, Nat.reduceLeDiff, Nat.reduceMul, Nat.reduceSub, reduceIte, reduceCtorEq, Int.reduceLE, Int.reduceToNat, Int.reduceLT, Int.reduceEq, Int.reduceAdd, Int.reduceSub, Int.reduceMul, Int.reduceNeg]
    refine hK _ _ ?_; clear hK K
    refine awp_if true rfl (fun _ => ?_) (fun hc => by cases hc)
    refine awp_seq_k fun K hK => ?_; refine awp_region rfl ?_; simp only [AL, TY, aq, aint, astr, aWant, isPtr, abnd, ahi, alo, aload, rd, newObj, alit, aparts, astore, amapset, cellsOf, ev, avOf, av1, putF, upd, argF, TK.agg, aapp, asrc, one, aq.abuild, Nat.reduceEqDiff, Nat.reduceAdd, Nat.reduceLT, Nat.reduceLeDiff, Nat.reduceMul, Nat.reduceSub, reduceIte, reduceCtorEq, Int.reduceLE, Int.reduceToNat, Int.reduceLT, Int.reduceEq, Int.reduceAdd, Int.reduceSub, Int.reduceMul, Int.reduceNeg]
    simp only [f3, hH, AL, TY, aq, aint, astr, aWant, isPtr, abnd, ahi, alo, aload, rd, newObj, alit, aparts, astore, amapset, cellsOf, ev, avOf, av1, putF, upd, argF, TK.agg, aapp, asrc, one, aq.abuild, Nat.reduceEqDiff, Nat.reduceAdd, Nat.reduceLT, Nat.reduceLeDiff, Nat.reduceMul, Nat.reduceSub, reduceIte, reduceCtorEq, Int.reduceLE, Int.reduceToNat, Int.reduceLT, Int.reduceEq, Int.reduceAdd, Int.reduceSub, Int.reduceMul, Int.reduceNeg]
    refine hK _ _ ?_; clear hK K
    refine awp_ret ?_
    simp only [thenQ, blockQ, bodyQ, aresult, ares, argF, AL, TY, aq, aint, astr, aWant, isPtr, abnd, ahi, alo, aload, rd, newObj, alit, aparts, astore, amapset, cellsOf, ev, avOf, av1, putF, upd, argF, TK.agg, aapp, asrc, one, aq.abuild, Nat.reduceEqDiff, Nat.reduceAdd, Nat.reduceLT, Nat.reduceLeDiff, Nat.reduceMul, Nat.reduceSub, reduceIte, reduceCtorEq, Int.reduceLE, Int.reduceToNat, Int.reduceLT, Int.reduceEq, Int.reduceAdd, Int.reduceSub, Int.reduceMul, Int.reduceNeg]
    refine Gives.whole ⟨rfl, ⟨?_, upd_same _ _ _ |>.trans (by simp only [addB, hl, Option.isSome_some, if_true]), ?_⟩, fun b' o' hm hb' => ?_⟩
    · simp only [upd, if_neg n1]; exact hK2 _ _ (fun h => h) h1
    · have : b ≠ bu := fun e => n3 e.symm
      simp only [upd, if_neg this, addT, hl, Option.isSome_some, if_true]; exact hK2 _ _ (fun h => h) h3
    · have : b' ≠ bu := fun e => hm (.inl e)
      simp only [upd, if_neg this]; exact hK2 b' o' (fun h => h) hb'
  | none =>
    rw [hl] at hr2
    obtain rfl : r = none := by cases r with | none => rfl | some p => simp at hr2
    refine awp_seq ?_
    refine awp_seq_k fun K hK => ?_; refine awp_region rfl ?_; simp only [AL, TY, aq, aint, astr, aWant, isPtr, abnd, ahi, alo, aload, rd, newObj, alit, aparts, astore, amapset, cellsOf, ev, avOf, av1, putF, upd, argF, TK.agg, aapp, asrc, one, aq.abuild, Nat.reduceEqDiff, Nat.reduceAdd, Nat.reduceLT, Nat.reduceLeDiff, Nat.reduceMul, Nat.reduceSub, reduceIte, reduceCtorEq, Int.reduceLE, Int.reduceToNat, Int.reduceLT, Int.reduceEq, Int.reduceAdd, Int.reduceSub, Int.reduceMul, Int.reduceNeg]
    simp only [f0, f2, k1, k3, hr, Option.getD_none, AL, TY, aq, aint, astr, aWant, isPtr, abnd, ahi, alo, aload, rd, newObj, alit, aparts, astore, amapset, cellsOf, ev, avOf, av1, putF, upd, argF, TK.agg, aapp, asrc, one, aq.abuild, Nat.reduceEqDiff, Nat.reduceAdd, Nat.reduceLT, Nat.reduceLeDiff, Nat.reduceMul, Nat.reduceSub, reduceIte, reduceCtorEq, Int.reduceLE, Int.reduceToNat, Int.reduceLT, Int.reduceEq, Int.reduceAdd, Int.reduceSub, Int.reduceMul, Int.reduceNeg]
    refine awpN_intro fun b6 hb6 => ?_
    simp only [AL, TY, aq, aint, astr, aWant, isPtr, abnd, ahi, alo, aload, rd, newObj, alit, aparts, astore, amapset, cellsOf, ev, avOf, av1, putF, upd, argF, TK.agg, aapp, asrc, one, aq.abuild, Nat.reduceEqDiff, Nat.reduceAdd, Nat.reduceLT, Nat.reduceLeDiff, Nat.reduceMul, Nat.reduceSub, reduceIte, reduceCtorEq, Int.reduceLE, Int.reduceToNat, Int.reduceLT, Int.reduceEq, Int.reduceAdd, Int.reduceSub, Int.reduceMul, Int.reduceNeg]
    refine hK _ _ ?_; clear hK K
    have hK2 : keeps (fun _ => False) H1 (upd (upd H1 b6 (some (.rows 2 [[.int .i64 0, .int .i64 0]]))) b6 (some (.rows 2 [[.int .i64 0, .int .i64 0]]))) := by
      intro b' o' _ hb'
      have : b' ≠ b6 := fun e => by rw [e, hb6] at hb'; cases hb'
      simp only [upd, if_neg this]; exact hb'
    generalize (upd (upd H1 b6 (some (.rows 2 [[.int .i64 0, .int .i64 0]]))) b6 (some (.rows 2 [[.int .i64 0, .int .i64 0]]))) = H2 at hK2 ⊢
    have j1 := hK2 _ _ (fun h => h) k1
    have j2 := hK2 _ _ (fun h => h) k2
    have j3 := hK2 _ _ (fun h => h) k3
    have j5 := hK2 _ _ (fun h => h) hb5
    refine awp_seq_k fun K hK => ?_; refine awp_region rfl ?_; simp only [AL, TY, aq, aint, astr, aWant, isPtr, abnd, ahi, alo, aload, rd, newObj, alit, aparts, astore, amapset, cellsOf, ev, avOf, av1, putF, upd, argF, TK.agg, aapp, asrc, one, aq.abuild, Nat.reduceEqDiff, Nat.reduceAdd, Nat.reduceLT, Nat.reduceLeDiff, Nat.reduceMul, Nat.reduceSub, reduceIte, reduceCtorEq, Int.reduceLE, Int.reduceToNat, Int.reduceLT, Int.reduceEq, Int.reduceAdd, Int.reduceSub, Int.reduceMul, Int.reduceNeg]
    refine hK _ _ ?_; clear hK K
    refine awp_if false rfl (fun hc => by cases hc) (fun _ => ?_)
    refine awp_skip ?_; simp only [thenQ, blockQ]
    refine awp_region rfl ?_
    have hput : aput (m.map ent) (.str t.name) (.agg [.int .i64 t.kind, .int .i64 t.num]) = some ((addT m t).map ent) := by
      simp only [aput, hr, addT, hl, Option.isSome_none, Bool.false_eq_true, if_false, List.map_append, List.map_cons, List.map_nil, ent, thV]
    simp only [f0, f2, f5, j1, j3, j5, hput, AL, TY, aq, aint, astr, aWant, isPtr, abnd, ahi, alo, aload, rd, newObj, alit, aparts, astore, amapset, cellsOf, ev, avOf, av1, putF, upd, argF, TK.agg, aapp, asrc, one, aq.abuild, Nat.reduceEqDiff, Nat.reduceAdd, Nat.reduceLT, Nat.reduceLeDiff, Nat.reduceMul, Nat.reduceSub, reduceIte, reduceCtorEq, Int.reduceLE, Int.reduceToNat, Int.reduceLT, Int.reduceEq, Int.reduceAdd, Int.reduceSub, Int.reduceMul, Int.reduceNeg]
    simp only [bodyQ, aresult, ares]
    refine Gives.whole ⟨rfl, ⟨?_, ?_, upd_same _ _ _⟩, fun b' o' hm hb' => ?_⟩
    · simp only [upd, if_neg n2]; exact j1
    · simp only [upd, if_neg n3]
      rw [j2]; simp only [addB, hl, Option.isSome_none, Bool.false_eq_true, if_false]
    · have : b' ≠ b := fun e => hm (.inr e)
      simp only [upd, if_neg this]; exact hK2 b' o' (fun h => h) (hk b' o' (fun h => h) hb')
end Go.Proofs.Ytnbokmbjiioooaa
