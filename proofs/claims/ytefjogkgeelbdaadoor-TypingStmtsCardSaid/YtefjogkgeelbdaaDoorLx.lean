/- Chapter 17: the contracts of TypingExpr, TypingCheck, TypingSound. -/
import Derived.Test.YtefjogkgeelbdaaDoorT2
set_option linter.unusedSimpArgs false
set_option linter.unusedVariables false
set_option maxRecDepth 10000
namespace Go.Proofs.YtefjogkgeelbdaaDoor
open Go.Al
theorem TypingSound_con (p : Pg) (hp : p.ok) : PCon env 5 [p.av] (.bool true) := by
  have hF := Few_con p hp 300 (by omega) (by omega)
  have hw := fewB_few p hp 300 (by omega)
  have hav : p.av = .agg p.row := rfl
  have hrow : p.row = [.isl 1 (p.vars.map strRow), .isl 2 (p.arrs.map Ar.row), .isl 5 (p.funs.map Fu.row)] := rfl
  rw [hav, hrow] at hF ⊢
  cases hc : fewB p 300 with
  | false =>
    rw [hc] at hF
    refine con_of 13 [.tmp 2] Tryd.func5 rfl rfl rfl rfl ?_
    refine awp_seq_k fun K hK => ?_
    refine awp_region rfl ?_
    simp only [RR, seval]
    refine awpN_intro fun b1 hn1 => ?_
    simp only [RR, seval]
    refine hK _ _ ?_; clear hK K
    refine awp_seq ?_
    refine awp_seq_k fun K hK => ?_
    refine awp_region rfl ?_
    simp only [RR, seval]
    refine awpC_pure' (awake_con) ?_
    simp only [RR, seval]
    refine hK _ _ ?_; clear hK K
    refine awp_if false rfl (fun hc => by cases hc) (fun _ => ?_)
    refine awp_skip ?_; try simp only [RR]
    refine awp_seq ?_
    refine awp_seq_k fun K hK => ?_
    refine awp_region rfl ?_
    simp only [RR, seval]
    refine awpC_pure' (hF) ?_
    simp only [RR, seval]
    refine hK _ _ ?_; clear hK K
    refine awp_if true rfl (fun _ => ?_) (fun hc => by cases hc)
    refine awp_seq_k fun K hK => ?_
    refine awp_region rfl ?_
    simp only [RR, seval]
    refine hK _ _ ?_; clear hK K
    refine awp_ret ?_; simp only [bodyQ, aresult, ares, RR, seval]
    refine Gives.pure ?_
    rfl
  | true =>
    rw [hc] at hF
    have h1 := pSound_con p (hw hc)
    have h2 := rSound_con p (hw hc)
    rw [hav, hrow] at h1 h2
    refine con_of 13 [.tmp 2] Tryd.func5 rfl rfl rfl rfl ?_
    refine awp_seq_k fun K hK => ?_
    refine awp_region rfl ?_
    simp only [RR, seval]
    refine awpN_intro fun b1 hn1 => ?_
    simp only [RR, seval]
    refine hK _ _ ?_; clear hK K
    refine awp_seq ?_
    refine awp_seq_k fun K hK => ?_
    refine awp_region rfl ?_
    simp only [RR, seval]
    refine awpC_pure' (awake_con) ?_
    simp only [RR, seval]
    refine hK _ _ ?_; clear hK K
    refine awp_if false rfl (fun hc => by cases hc) (fun _ => ?_)
    refine awp_skip ?_; try simp only [RR]
    refine awp_seq ?_
    refine awp_seq_k fun K hK => ?_
    refine awp_region rfl ?_
    simp only [RR, seval]
    refine awpC_pure' (hF) ?_
    simp only [RR, seval]
    refine hK _ _ ?_; clear hK K
    refine awp_if false rfl (fun hc => by cases hc) (fun _ => ?_)
    refine awp_skip ?_; try simp only [RR]
    refine awp_seq_k fun K hK => ?_
    refine awp_region_draw2 (fun x => x ≠ b1) [(0, 1), (2, 0), (1, 1), (3, 1), (4, 3), (5, 3)] [] draws (by kernel_rfl) rfl rfl ?_
    simp only [emitF, markOf, touch_mp, touch_imp, touch_nmp, ne_eq, not_true_eq_false, and_false, false_and, not_false_eq_true, RR, seval]
    refine awpC_pure' (h1) ?_
    simp only [emitF, markOf, touch_mp, touch_imp, touch_nmp, ne_eq, not_true_eq_false, and_false, false_and, not_false_eq_true, RR, seval]
    refine awpC_pure' (h2) ?_
    simp only [emitF, markOf, touch_mp, touch_imp, touch_nmp, ne_eq, not_true_eq_false, and_false, false_and, not_false_eq_true, RR, seval]
    refine hK _ _ ?_; clear hK K
    refine awp_ret ?_; simp only [bodyQ, aresult, ares, RR, seval]
    refine Gives.pure ?_
    rfl
theorem TypingCheck_con (p : Pg) (hp : p.ok) : PCon env 4 [p.av] (.bool true) := by
  have hF := Few_con p hp 300 (by omega) (by omega)
  have hw := fewB_few p hp 300 (by omega)
  have hR := fun h => Right_con p hp (fun f hf => by have := (hw h).fs f hf; omega)
  have h1 := pCheckT_con p hp
  have h2 := rCheckT_con p hp
  have hav : p.av = .agg p.row := rfl
  have hrow : p.row = [.isl 1 (p.vars.map strRow), .isl 2 (p.arrs.map Ar.row), .isl 5 (p.funs.map Fu.row)] := rfl
  rw [hav, hrow] at hF h1 h2 hR ⊢
  cases hc : fewB p 300 with
  | false =>
    rw [hc] at hF
    refine con_of 18 [.tmp 2] Tryd.func4 rfl rfl rfl rfl ?_
    refine awp_seq_k fun K hK => ?_
    refine awp_region rfl ?_
    simp only [RR, seval]
    refine awpN_intro fun b1 hn1 => ?_
    simp only [RR, seval]
    refine hK _ _ ?_; clear hK K
    refine awp_seq ?_
    refine awp_seq_k fun K hK => ?_
    refine awp_region rfl ?_
    simp only [RR, seval]
    refine awpC_pure' (awake_con) ?_
    simp only [RR, seval]
    refine hK _ _ ?_; clear hK K
    refine awp_if false rfl (fun hc => by cases hc) (fun _ => ?_)
    refine awp_skip ?_; try simp only [RR]
    refine awp_seq ?_
    refine awp_seq_k fun K hK => ?_
    refine awp_region rfl ?_
    simp only [RR, seval]
    refine awpC_pure' (hF) ?_
    simp only [RR, seval]
    refine hK _ _ ?_; clear hK K
    refine awp_if true rfl (fun _ => ?_) (fun hc => by cases hc)
    refine awp_seq_k fun K hK => ?_
    refine awp_region rfl ?_
    simp only [RR, seval]
    refine hK _ _ ?_; clear hK K
    refine awp_ret ?_; simp only [bodyQ, aresult, ares, RR, seval]
    refine Gives.pure ?_
    rfl
  | true =>
    rw [hc] at hF
    have hR := hR hc
    cases hr : rightP p with
    | false =>
      rw [hr] at hR
      refine con_of 18 [.tmp 2] Tryd.func4 rfl rfl rfl rfl ?_
      refine awp_seq_k fun K hK => ?_
      refine awp_region rfl ?_
      simp only [RR, seval]
      refine awpN_intro fun b1 hn1 => ?_
      simp only [RR, seval]
      refine hK _ _ ?_; clear hK K
      refine awp_seq ?_
      refine awp_seq_k fun K hK => ?_
      refine awp_region rfl ?_
      simp only [RR, seval]
      refine awpC_pure' (awake_con) ?_
      simp only [RR, seval]
      refine hK _ _ ?_; clear hK K
      refine awp_if false rfl (fun hc => by cases hc) (fun _ => ?_)
      refine awp_skip ?_; try simp only [RR]
      refine awp_seq ?_
      refine awp_seq_k fun K hK => ?_
      refine awp_region rfl ?_
      simp only [RR, seval]
      refine awpC_pure' (hF) ?_
      simp only [RR, seval]
      refine awpC_pure' (hR) ?_
      simp only [RR, seval]
      refine hK _ _ ?_; clear hK K
      refine awp_if true rfl (fun _ => ?_) (fun hc => by cases hc)
      refine awp_seq_k fun K hK => ?_
      refine awp_region rfl ?_
      simp only [RR, seval]
      refine hK _ _ ?_; clear hK K
      refine awp_ret ?_; simp only [bodyQ, aresult, ares, RR, seval]
      refine Gives.pure ?_
      rfl
    | true =>
      rw [hr] at hR
      refine con_of 18 [.tmp 2] Tryd.func4 rfl rfl rfl rfl ?_
      refine awp_seq_k fun K hK => ?_
      refine awp_region rfl ?_
      simp only [RR, seval]
      refine awpN_intro fun b1 hn1 => ?_
      simp only [RR, seval]
      refine hK _ _ ?_; clear hK K
      refine awp_seq ?_
      refine awp_seq_k fun K hK => ?_
      refine awp_region rfl ?_
      simp only [RR, seval]
      refine awpC_pure' (awake_con) ?_
      simp only [RR, seval]
      refine hK _ _ ?_; clear hK K
      refine awp_if false rfl (fun hc => by cases hc) (fun _ => ?_)
      refine awp_skip ?_; try simp only [RR]
      refine awp_seq ?_
      refine awp_seq_k fun K hK => ?_
      refine awp_region rfl ?_
      simp only [RR, seval]
      refine awpC_pure' (hF) ?_
      simp only [RR, seval]
      refine awpC_pure' (hR) ?_
      simp only [RR, seval]
      refine hK _ _ ?_; clear hK K
      refine awp_if false rfl (fun hc => by cases hc) (fun _ => ?_)
      refine awp_skip ?_; try simp only [RR]
      refine awp_seq_k fun K hK => ?_
      refine awp_region_draw2 (fun x => x ≠ b1) [(0, 1), (2, 0), (1, 1), (3, 1), (4, 3), (5, 3)] [] draws (by kernel_rfl) rfl rfl ?_
      simp only [emitF, markOf, touch_mp, touch_imp, touch_nmp, ne_eq, not_true_eq_false, and_false, false_and, not_false_eq_true, RR, seval]
      refine awpC_pure' (h1) ?_
      simp only [emitF, markOf, touch_mp, touch_imp, touch_nmp, ne_eq, not_true_eq_false, and_false, false_and, not_false_eq_true, RR, seval]
      refine awpC_pure' (h2) ?_
      simp only [emitF, markOf, touch_mp, touch_imp, touch_nmp, ne_eq, not_true_eq_false, and_false, false_and, not_false_eq_true, RR, seval]
      refine hK _ _ ?_; clear hK K
      refine awp_ret ?_; simp only [bodyQ, aresult, ares, RR, seval]
      refine Gives.pure ?_
      rfl
/-- a law's guard on a program and an expression -/
def guardX (p : Pg) (e : Ex) (m d l : Int) : Bool := fewB p m && rightP p && !decide (leftE [e] m d < 0) && rightX e l
theorem TypingExpr_con (p : Pg) (hp : p.ok) (e : Ex) (he : e.ok) : PCon env 3 [p.av, .agg e.row] (.bool true) := by
  have hF := Few_con p hp 200 (by omega) (by omega)
  have hw := fewB_few p hp 200 (by omega)
  have hR := fun h => Right_con p hp (fun f hf => by have := (hw h).fs f hf; omega)
  have hL := LeftExprs_con _ [e] 200 30 (Nat.le_refl _) (okE_1 he) (by omega) (by omega) (by omega) (by omega)
  have hX := RightExpr_con e he 1 (by omega) (by omega)
  have h1 := pExpr_con p hp e he
  have h2 := rExpr_con p hp e he
  have hav : p.av = .agg p.row := rfl
  have hrow : p.row = [.isl 1 (p.vars.map strRow), .isl 2 (p.arrs.map Ar.row), .isl 5 (p.funs.map Fu.row)] := rfl
  rw [List.map_cons, List.map_nil] at hL
  generalize exprT p e = ty at *
  generalize rightX e 1 = RX at *
  generalize leftE [e] 200 30 = le at *
  rw [hav, hrow] at hF h1 h2 hR ⊢
  rw [e.row_eq] at *
  obtain ⟨LB, zl⟩ : ∃ b, decide (le < 0) = b := ⟨_, rfl⟩
  cases hc : fewB p 200 with
  | false =>
    rw [hc] at hF
    refine con_of 50 [.tmp 4] Tryd.func3 rfl rfl rfl rfl ?_
    refine awp_seq_k fun K hK => ?_
    refine awp_region rfl ?_
    simp only [RR, seval]
    refine awpN_intro fun b2 hn2 => ?_
    simp only [RR, seval]
    refine awpN_intro fun b3 hn3 => ?_
    have nb3_b2 : b3 ≠ b2 := fun e => by rw [e] at hn3; simp only [RR, seval, reduceCtorEq] at hn3
    have nb2_b3 : b2 ≠ b3 := fun e => nb3_b2 e.symm
    simp only [nb3_b2, nb2_b3, RR, seval]
    refine hK _ _ ?_; clear hK K
    refine awp_seq ?_
    refine awp_seq_k fun K hK => ?_
    refine awp_region rfl ?_
    simp only [nb3_b2, nb2_b3, RR, seval]
    refine awpC_pure' (awake_con) ?_
    simp only [nb3_b2, nb2_b3, RR, seval]
    refine hK _ _ ?_; clear hK K
    refine awp_if false rfl (fun hc => by cases hc) (fun _ => ?_)
    refine awp_skip ?_; try simp only [RR]
    refine awp_seq ?_
    refine awp_seq_k fun K hK => ?_
    refine awp_region rfl ?_
    simp only [nb3_b2, nb2_b3, RR, seval]
    all_goals try (refine awpC_pure' (hF) ?_; simp only [nb3_b2, nb2_b3, RR, seval])
    all_goals try ((first | refine awpG_splitN (fun h => ?_) (fun h => ?_) | refine awpG_split (fun h => ?_) (fun h => ?_)) <;> simp only [h, nb3_b2, nb2_b3, RR, seval])
    all_goals try ((first | refine awpG_splitN (fun h => ?_) (fun h => ?_) | refine awpG_split (fun h => ?_) (fun h => ?_)) <;> simp only [h, nb3_b2, nb2_b3, RR, seval])
    all_goals try (refine awpB_sealed ?_; simp only [nb3_b2, nb2_b3, RR, seval])
    all_goals try ((first | refine awpG_splitN (fun h => ?_) (fun h => ?_) | refine awpG_split (fun h => ?_) (fun h => ?_)) <;> simp only [h, nb3_b2, nb2_b3, RR, seval])
    all_goals
      refine hK _ _ ?_; clear hK K
      refine awp_if true rfl (fun _ => ?_) (fun hc => by cases hc)
      refine awp_seq_k fun K hK => ?_
      refine awp_region rfl ?_
      simp only [nb3_b2, nb2_b3, RR, seval]
      refine hK _ _ ?_; clear hK K
      refine awp_ret ?_; simp only [bodyQ, aresult, ares, nb3_b2, nb2_b3, RR, seval]
      refine Gives.pure ?_
      rfl
  | true =>
    rw [hc] at hF
    have hR := hR hc
    generalize rightP p = RP at hR
    clear hw
    cases RP <;> cases RX <;> cases LB
    all_goals
      refine con_of 50 [.tmp 4] Tryd.func3 rfl rfl rfl rfl ?_
      refine awp_seq_k fun K hK => ?_
      refine awp_region rfl ?_
      simp only [zl, RR, seval]
      refine awpN_intro fun b2 hn2 => ?_
      simp only [zl, RR, seval]
      refine awpN_intro fun b3 hn3 => ?_
      have nb3_b2 : b3 ≠ b2 := fun e => by rw [e] at hn3; simp only [zl, RR, seval, reduceCtorEq] at hn3
      have nb2_b3 : b2 ≠ b3 := fun e => nb3_b2 e.symm
      simp only [nb3_b2, nb2_b3, zl, RR, seval]
      refine hK _ _ ?_; clear hK K
      refine awp_seq ?_
      refine awp_seq_k fun K hK => ?_
      refine awp_region rfl ?_
      simp only [nb3_b2, nb2_b3, zl, RR, seval]
      refine awpC_pure' (awake_con) ?_
      simp only [nb3_b2, nb2_b3, zl, RR, seval]
      refine hK _ _ ?_; clear hK K
      refine awp_if false rfl (fun hc => by cases hc) (fun _ => ?_)
      refine awp_skip ?_; try simp only [RR]
      refine awp_seq ?_
      refine awp_seq_k fun K hK => ?_
      refine awp_region rfl ?_
      simp only [nb3_b2, nb2_b3, zl, RR, seval]
      all_goals try (refine awpC_pure' (hF) ?_; simp only [nb3_b2, nb2_b3, zl, RR, seval])
      all_goals try ((first | refine awpG_splitN (fun h => ?_) (fun h => ?_) | refine awpG_split (fun h => ?_) (fun h => ?_)) <;> simp only [h, nb3_b2, nb2_b3, zl, RR, seval])
      all_goals try (refine awpC_pure' (hR) ?_; simp only [nb3_b2, nb2_b3, zl, RR, seval])
      all_goals try ((first | refine awpG_splitN (fun h => ?_) (fun h => ?_) | refine awpG_split (fun h => ?_) (fun h => ?_)) <;> simp only [h, nb3_b2, nb2_b3, zl, RR, seval])
      all_goals try (refine awpB_sealed ?_; simp only [nb3_b2, nb2_b3, zl, RR, seval])
      all_goals try (refine awpC_pure' (hL) ?_; simp only [nb3_b2, nb2_b3, zl, RR, seval])
      all_goals try ((first | refine awpG_splitN (fun h => ?_) (fun h => ?_) | refine awpG_split (fun h => ?_) (fun h => ?_)) <;> simp only [h, nb3_b2, nb2_b3, zl, RR, seval])
      all_goals try (refine awpC_pure' (hX) ?_; simp only [nb3_b2, nb2_b3, zl, RR, seval])
      all_goals
        refine hK _ _ ?_; clear hK K
        refine awp_if _ rfl (fun hc3 => ?_) (fun hc3 => ?_)
        · try (cases hc3; done)
          all_goals
            refine awp_seq_k fun K hK => ?_
            refine awp_region rfl ?_
            simp only [nb3_b2, nb2_b3, zl, RR, seval]
            refine hK _ _ ?_; clear hK K
            refine awp_ret ?_; simp only [bodyQ, aresult, ares, nb3_b2, nb2_b3, zl, RR, seval]
            refine Gives.pure ?_
            rfl
        · try (cases hc3; done)
          all_goals
            refine awp_skip ?_; try simp only [RR]
            refine awp_seq_k fun K hK => ?_
            refine awp_region rfl ?_
            simp only [nb3_b2, nb2_b3, zl, RR, seval]
            refine awpC_pure' (h1) ?_
            simp only [nb3_b2, nb2_b3, zl, RR, seval]
            refine hK _ _ ?_; clear hK K
            refine awp_seq_k fun K hK => ?_
            refine awp_region rfl ?_
            simp only [nb3_b2, nb2_b3, zl, RR, seval]
            refine awpC_pure' (h2) ?_
            simp only [nb3_b2, nb2_b3, zl, RR, seval]
            refine hK _ _ ?_; clear hK K
            refine awp_seq_k fun K hK => ?_
            refine awp_region rfl ?_
            simp only [nb3_b2, nb2_b3, zl, RR, seval]
            refine hK _ _ ?_; clear hK K
            refine awp_ret ?_; simp only [bodyQ, aresult, ares, nb3_b2, nb2_b3, zl, RR, seval]
            refine Gives.pure ?_
            rfl
end Go.Proofs.YtefjogkgeelbdaaDoor
