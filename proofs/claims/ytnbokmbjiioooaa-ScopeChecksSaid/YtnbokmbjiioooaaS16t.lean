/- Chapter 16: few; the first law's contract. -/
import Derived.Test.YtnbokmbjiioooaaS16s
set_option linter.unusedSimpArgs false
set_option linter.unusedVariables false
namespace Go.Al
theorem leftE_sz (n : Nat) : ∀ (l : List Ex) (left deep : Int), szE l ≤ n → 0 ≤ leftE l left deep → leftE l left deep + szE l = left := by
  induction n using Nat.strongRecOn with
  | _ n ih =>
    intro l left deep hn h
    cases l with
    | nil => rw [leftE, szE]; simp
    | cons e l =>
      have hs := e.sz_eq
      rw [szE] at hn ⊢
      rw [leftE_cons] at h ⊢
      split at h
      · omega
      · rename_i h1
        rw [if_neg h1]
        split at h
        · omega
        · rename_i h2
          rw [if_neg h2]
          have i1 := ih (szE l) (by omega) l _ deep (Nat.le_refl _) h
          have i2 := ih (szE e.kids) (by omega) e.kids (left - 1) (deep - 1) (Nat.le_refl _) (by omega)
          omega
theorem leftS_sz (n : Nat) : ∀ (l : List Sm) (left deep : Int), szS l ≤ n → 0 ≤ leftS l left deep → leftS l left deep + szS l = left := by
  induction n using Nat.strongRecOn with
  | _ n ih =>
    intro l left deep hn h
    cases l with
    | nil => rw [leftS, szS]; simp
    | cons e l =>
      have hs := e.sz_eq
      rw [szS] at hn ⊢
      rw [leftS_cons] at h ⊢
      split at h
      · omega
      · rename_i h1
        rw [if_neg h1]
        split at h
        · omega
        · rename_i h2
          rw [if_neg h2]
          have i1 := ih (szS l) (by omega) l _ deep (Nat.le_refl _) h
          have i2 := ih (szS e.els) (by omega) e.els (leftS e.thn (leftE e.es (left - 1) (deep - 1)) (deep - 1)) (deep - 1) (Nat.le_refl _) (by omega)
          have i3 := ih (szS e.thn) (by omega) e.thn (leftE e.es (left - 1) (deep - 1)) (deep - 1) (Nat.le_refl _) (by omega)
          have i4 := leftE_sz _ e.es (left - 1) (deep - 1) (Nat.le_refl _) (by omega)
          omega
theorem leftF_sz : ∀ (l : List Fu) (left : Int), 0 ≤ leftF l left → leftF l left ≤ left ∧ ∀ f ∈ l, (szS f.body : Int) ≤ left
  | [], left, h => ⟨by rw [leftF]; exact Int.le_refl _, fun f hf => by cases hf⟩
  | f :: l, left, h => by
    rw [leftF] at h ⊢
    obtain ⟨h1, h2⟩ := leftF_sz l _ h
    have h3 := leftS_sz _ f.body (left - f.params.length - f.locs.length) 60 (Nat.le_refl _) (by omega)
    refine ⟨by omega, fun g hg => ?_⟩
    rcases List.mem_cons.mp hg with rfl | hg
    · omega
    · have := h2 g hg; omega
end Go.Al
namespace Go.Proofs.Ytnbokmbjiioooaa
open Go.Al
def few16 (p : Pg) : Bool := fewB p 400 && rightP p
theorem few16_few (p : Pg) (hp : p.ok) (h : few16 p = true) : p.few ∧ 1 ≤ p.funs.length := by
  simp only [few16, fewB, rightP, Bool.and_eq_true, decide_eq_true_eq, List.all_eq_true] at h
  obtain ⟨⟨⟨⟨⟨⟨h1, h2⟩, h3⟩, h4⟩, h5⟩, h6⟩, ⟨⟨⟨_, h7⟩, _⟩, _⟩, _⟩ := h
  have hs := (leftF_sz _ _ h6).2
  refine ⟨⟨hp, ?_, by omega, by omega, fun f hf => ?_⟩, h7⟩
  · have := (shortB_len h1).1; omega
  · have hff := h5 f hf
    simp only [fewF, Bool.and_eq_true] at hff
    have q1 := (shortB_len hff.1.1).1
    have q2 := (shortB_len hff.1.2).1
    have := hs f hf
    refine ⟨by omega, by omega, by omega⟩
theorem fewB_params (p : Pg) (h : fewB p 400 = true) : ∀ f ∈ p.funs, f.params.length ≤ 1000000 := fun f hf => by
  simp only [fewB, Bool.and_eq_true, List.all_eq_true] at h
  have hff := h.1.2 f hf
  simp only [fewF, Bool.and_eq_true] at hff
  have q1 := (shortB_len hff.1.1).1
  omega
theorem few_con (p : Pg) (hp : p.ok) : PCon env 10 [p.av] (.bool (few16 p)) := by
  have hF := Few_con p hp 400 (by omega) (by omega)
  have hR := fun h => Right_con p hp (fewB_params p h)
  have hd : few16 p = (fewB p 400 && rightP p) := rfl
  generalize few16 p = res at *
  simp only [Pg.av, Pg.row] at *
  refine con_of 9 [.tmp 2] Try.func10 rfl rfl rfl rfl ?_
  refine awp_seq_k fun K hK => ?_; refine awp_region rfl ?_; simp only [AL, TY, aq, aint, astr, aWant, isPtr, abnd, ahi, alo, aload, rd, newObj, alit, aparts, astore, amapset, cellsOf, ev, avOf, av1, putF, upd, argF, TK.agg, aapp, asrc, one, aq.abuild, Nat.reduceEqDiff, Nat.reduceAdd, Nat.reduceLT, Nat.reduceLeDiff, Nat.reduceMul, Nat.reduceSub, reduceIte, reduceCtorEq, Int.reduceLE, Int.reduceToNat, Int.reduceLT, Int.reduceEq, Int.reduceAdd, Int.reduceSub, Int.reduceMul, Int.reduceNeg]
  refine awpN_intro fun b hb => ?_; simp only [AL, TY, aq, aint, astr, aWant, isPtr, abnd, ahi, alo, aload, rd, newObj, alit, aparts, astore, amapset, cellsOf, ev, avOf, av1, putF, upd, argF, TK.agg, aapp, asrc, one, aq.abuild, Nat.reduceEqDiff, Nat.reduceAdd, Nat.reduceLT, Nat.reduceLeDiff, Nat.reduceMul, Nat.reduceSub, reduceIte, reduceCtorEq, Int.reduceLE, Int.reduceToNat, Int.reduceLT, Int.reduceEq, Int.reduceAdd, Int.reduceSub, Int.reduceMul, Int.reduceNeg]
  refine hK _ _ ?_; clear hK K
  refine awp_seq_k fun K hK => ?_; refine awp_region rfl ?_; simp only [AL, TY, aq, aint, astr, aWant, isPtr, abnd, ahi, alo, aload, rd, newObj, alit, aparts, astore, amapset, cellsOf, ev, avOf, av1, putF, upd, argF, TK.agg, aapp, asrc, one, aq.abuild, Nat.reduceEqDiff, Nat.reduceAdd, Nat.reduceLT, Nat.reduceLeDiff, Nat.reduceMul, Nat.reduceSub, reduceIte, reduceCtorEq, Int.reduceLE, Int.reduceToNat, Int.reduceLT, Int.reduceEq, Int.reduceAdd, Int.reduceSub, Int.reduceMul, Int.reduceNeg]
  refine awpC_pure' hF ?_
  cases hc : fewB p 400 with
  | false =>
    simp only [AL, TY, aq, aint, astr, aWant, isPtr, abnd, ahi, alo, aload, rd, newObj, alit, aparts, astore, amapset, cellsOf, ev, avOf, av1, putF, upd, argF, TK.agg, aapp, asrc, one, aq.abuild, Nat.reduceEqDiff, Nat.reduceAdd, Nat.reduceLT, Nat.reduceLeDiff, Nat.reduceMul, Nat.reduceSub, reduceIte, reduceCtorEq, Int.reduceLE, Int.reduceToNat, Int.reduceLT, Int.reduceEq, Int.reduceAdd, Int.reduceSub, Int.reduceMul, Int.reduceNeg]
    refine hK _ _ ?_; clear hK K
    refine awp_ret ?_; simp only [thenQ, blockQ, bodyQ, aresult, ares, argF, AL, TY, aq, aint, astr, aWant, isPtr, abnd, ahi, alo, aload, rd, newObj, alit, aparts, astore, amapset, cellsOf, ev, avOf, av1, putF, upd, argF, TK.agg, aapp, asrc, one, aq.abuild, Nat.reduceEqDiff, Nat.reduceAdd, Nat.reduceLT, Nat.reduceLeDiff, Nat.reduceMul, Nat.reduceSub, reduceIte, reduceCtorEq, Int.reduceLE, Int.reduceToNat, Int.reduceLT, Int.reduceEq, Int.reduceAdd, Int.reduceSub, Int.reduceMul, Int.reduceNeg]; refine Gives.pure ?_
    rw [hd, hc]; rfl
  | true =>
    simp only [AL, TY, aq, aint, astr, aWant, isPtr, abnd, ahi, alo, aload, rd, newObj, alit, aparts, astore, amapset, cellsOf, ev, avOf, av1, putF, upd, argF, TK.agg, aapp, asrc, one, aq.abuild, Nat.reduceEqDiff, Nat.reduceAdd, Nat.reduceLT, Nat.reduceLeDiff, Nat.reduceMul, Nat.reduceSub, reduceIte, reduceCtorEq, Int.reduceLE, Int.reduceToNat, Int.reduceLT, Int.reduceEq, Int.reduceAdd, Int.reduceSub, Int.reduceMul, Int.reduceNeg]
    refine awpC_pure' (hR hc) ?_
    simp only [AL, TY, aq, aint, astr, aWant, isPtr, abnd, ahi, alo, aload, rd, newObj, alit, aparts, astore, amapset, cellsOf, ev, avOf, av1, putF, upd, argF, TK.agg, aapp, asrc, one, aq.abuild, Nat.reduceEqDiff, Nat.reduceAdd, Nat.reduceLT, Nat.reduceLeDiff, Nat.reduceMul, Nat.reduceSub, reduceIte, reduceCtorEq, Int.reduceLE, Int.reduceToNat, Int.reduceLT, Int.reduceEq, Int.reduceAdd, Int.reduceSub, Int.reduceMul, Int.reduceNeg]
    refine hK _ _ ?_; clear hK K
    refine awp_ret ?_; simp only [thenQ, blockQ, bodyQ, aresult, ares, argF, AL, TY, aq, aint, astr, aWant, isPtr, abnd, ahi, alo, aload, rd, newObj, alit, aparts, astore, amapset, cellsOf, ev, avOf, av1, putF, upd, argF, TK.agg, aapp, asrc, one, aq.abuild, Nat.reduceEqDiff, Nat.reduceAdd, Nat.reduceLT, Nat.reduceLeDiff, Nat.reduceMul, Nat.reduceSub, reduceIte, reduceCtorEq, Int.reduceLE, Int.reduceToNat, Int.reduceLT, Int.reduceEq, Int.reduceAdd, Int.reduceSub, Int.reduceMul, Int.reduceNeg]; refine Gives.pure ?_
    rw [hd, hc, Bool.true_and]
end Go.Proofs.Ytnbokmbjiioooaa
