/- Chapter 17: the contract of TypingKinds. -/
import Derived.Test.YtefjogkgeelbdaaDoorLx
set_option linter.unusedSimpArgs false
set_option linter.unusedVariables false
set_option maxRecDepth 10000
namespace Go.Al
theorem tyE_012 (W : Str → Bool) (e : Ex) : tyE W e = 0 ∨ tyE W e = 1 ∨ tyE W e = 2 := by
  rw [tyE_eq]
  repeat' split
  all_goals simp
theorem exprT_not (p : Pg) (e : Ex) : exprT p (.mk 7 0 0 [] [e]) = if knE (knF p) e = true then (if tyE (wdF p) e = 2 then (2, 0) else (0, 5)) else (0, 4) := by
  simp only [exprT, knE_eq (knF p) (.mk 7 0 0 [] [e]), tyE_eq (wdF p) (.mk 7 0 0 [] [e]), allT_cons, allT_nil, knL_cons, knL_nil, Ex.kind, Ex.op, Ex.name, Ex.kids]
  cases knE (knF p) e <;> by_cases h : tyE (wdF p) e = 2 <;> simp [h]
theorem exprT_add (p : Pg) (e : Ex) : exprT p (.mk 6 4 0 [] [e, e]) = if knE (knF p) e = true then (if tyE (wdF p) e = 1 then (1, 0) else (0, 5)) else (0, 4) := by
  simp only [exprT, knE_eq (knF p) (.mk 6 4 0 [] [e, e]), tyE_eq (wdF p) (.mk 6 4 0 [] [e, e]), allT_cons, allT_nil, knL_cons, knL_nil, Ex.kind, Ex.op, Ex.name, Ex.kids]
  cases knE (knF p) e <;> by_cases h : tyE (wdF p) e = 1 <;> simp [h]
theorem exprT_lt (p : Pg) (e : Ex) : exprT p (.mk 6 14 0 [] [e, e]) = if knE (knF p) e = true then (if tyE (wdF p) e = 1 then (2, 0) else (0, 5)) else (0, 4) := by
  simp only [exprT, knE_eq (knF p) (.mk 6 14 0 [] [e, e]), tyE_eq (wdF p) (.mk 6 14 0 [] [e, e]), allT_cons, allT_nil, knL_cons, knL_nil, Ex.kind, Ex.op, Ex.name, Ex.kids]
  cases knE (knF p) e <;> by_cases h : tyE (wdF p) e = 1 <;> simp [h]
theorem exprT_and (p : Pg) (e : Ex) : exprT p (.mk 8 0 0 [] [e, e]) = if knE (knF p) e = true then (if tyE (wdF p) e = 2 then (2, 0) else (0, 5)) else (0, 4) := by
  simp only [exprT, knE_eq (knF p) (.mk 8 0 0 [] [e, e]), tyE_eq (wdF p) (.mk 8 0 0 [] [e, e]), allT_cons, allT_nil, knL_cons, knL_nil, Ex.kind, Ex.op, Ex.name, Ex.kids]
  cases knE (knF p) e <;> by_cases h : tyE (wdF p) e = 2 <;> simp [h]
end Go.Al
namespace Go.Proofs.YtefjogkgeelbdaaDoor
open Go.Al
theorem ok_two {e : Ex} (he : e.ok) (k o : Int) (hk : i64R k) (ho : i64R o) : (Ex.mk k o 0 [] [e, e]).ok := ex_ok' k o 0 hk ho (by simp [u32R]) (s := []) (by simp [fitL]) (okE_2 he he)
theorem ok_one {e : Ex} (he : e.ok) : (Ex.mk 7 0 0 [] [e]).ok := ex_ok' 7 0 0 (by simp [i64R]) (by simp [i64R]) (by simp [u32R]) (s := []) (by simp [fitL]) (okE_1 he)
theorem row_two (k o : Int) (e : Ex) : (Ex.mk k o 0 [] [e, e]).row = [.int .i64 k, .int .i64 o, .int .u32 0, .str [], .isl 5 [e.row, e.row]] := by simp only [Ex.row, rowsE]
theorem row_one (e : Ex) : (Ex.mk 7 0 0 [] [e]).row = [.int .i64 7, .int .i64 0, .int .u32 0, .str [], .isl 5 [e.row]] := by simp only [Ex.row, rowsE]
set_option maxHeartbeats 2000000 in
theorem TypingKinds_con (p : Pg) (hp : p.ok) (e : Ex) (he : e.ok) : PCon env 6 [p.av, .agg e.row] (.bool true) := by
  have hF := Few_con p hp 100 (by omega) (by omega)
  have hw := fewB_few p hp 100 (by omega)
  have hR := fun h => Right_con p hp (fun f hf => by have := (hw h).fs f hf; omega)
  have hL := LeftExprs_con _ [e] 100 20 (Nat.le_refl _) (okE_1 he) (by omega) (by omega) (by omega) (by omega)
  have hX := RightExpr_con e he 4 (by omega) (by omega)
  have h0 := pExpr_con p hp e he
  have h1 := pExpr_con p hp _ (ok_two he 6 4 (by simp [i64R]) (by simp [i64R]))
  have h2 := pExpr_con p hp _ (ok_two he 6 14 (by simp [i64R]) (by simp [i64R]))
  have h3 := pExpr_con p hp _ (ok_one he)
  have h4 := pExpr_con p hp _ (ok_two he 8 0 (by simp [i64R]) (by simp [i64R]))
  have hE : exprT p e = if knE (knF p) e = true then (if tyE (wdF p) e = 0 then (0, 5) else (tyE (wdF p) e, 0)) else (0, 4) := rfl
  rw [hE] at h0
  rw [exprT_add, row_two] at h1
  rw [exprT_lt, row_two] at h2
  rw [exprT_not, row_one] at h3
  rw [exprT_and, row_two] at h4
  have ht := tyE_012 (wdF p) e
  have hav : p.av = .agg p.row := rfl
  have hrow : p.row = [.isl 1 (p.vars.map strRow), .isl 2 (p.arrs.map Ar.row), .isl 5 (p.funs.map Fu.row)] := rfl
  have b1 := fun k o => both_raw k o e.kind e.op e.num e.name (.isl 5 (e.kids.map Ex.row)) e.kind e.op e.num e.name (.isl 5 (e.kids.map Ex.row)) rfl rfl
  have ba := b1 6 4
  have bl := b1 6 14
  have bn := b1 8 0
  clear b1
  rw [List.map_cons, List.map_nil] at hL
  generalize rightX e 4 = RX at *
  generalize leftE [e] 100 20 = le at *
  generalize knE (knF p) e = K at *
  generalize tyE (wdF p) e = t at *
  rw [hav, hrow] at hF h0 h1 h2 h3 h4 hR ⊢
  rw [e.row_eq] at *
  obtain ⟨LB, zl⟩ : ∃ b, decide (le < 0) = b := ⟨_, rfl⟩
  cases hc : fewB p 100 with
  | false =>
    rw [hc] at hF
    clear ht
    refine con_of 160 [.tmp 4] Tryd.func6 rfl rfl rfl rfl ?_
    refine awp_seq_k fun K hK => ?_
    refine awp_region rfl ?_
    simp only [RR, seval]
    refine awpN_intro fun b2 hn2 => ?_
    simp only [RR, seval]
    refine awpN_intro fun b3 hn3 => ?_
    have nb3_b2 : b3 ≠ b2 := fun e => by rw [e] at hn3; simp only [RR, seval, reduceCtorEq] at hn3
    have nb2_b3 : b2 ≠ b3 := fun e => nb3_b2 e.symm
    simp only [nb3_b2, nb2_b3, RR, seval]
    refine hK _ _ ?_; clear hK K
    refine awp_seq ?_
    refine awp_seq_k fun K hK => ?_
    refine awp_region rfl ?_
    simp only [nb3_b2, nb2_b3, RR, seval]
    refine awpC_pure' (awake_con) ?_
    simp only [nb3_b2, nb2_b3, RR, seval]
    refine hK _ _ ?_; clear hK K
    refine awp_if false rfl (fun hc => by cases hc) (fun _ => ?_)
    refine awp_skip ?_; try simp only [RR]
    refine awp_seq ?_
    refine awp_seq_k fun K hK => ?_
    refine awp_region rfl ?_
    simp only [nb3_b2, nb2_b3, RR, seval]
    all_goals try (refine awpC_pure' (hF) ?_; simp only [nb3_b2, nb2_b3, RR, seval])
    all_goals try ((first | refine awpG_splitN (fun h => ?_) (fun h => ?_) | refine awpG_split (fun h => ?_) (fun h => ?_)) <;> simp only [h, nb3_b2, nb2_b3, RR, seval])
    all_goals try ((first | refine awpG_splitN (fun h => ?_) (fun h => ?_) | refine awpG_split (fun h => ?_) (fun h => ?_)) <;> simp only [h, nb3_b2, nb2_b3, RR, seval])
    all_goals try (refine awpB_sealed ?_; simp only [nb3_b2, nb2_b3, RR, seval])
    all_goals try ((first | refine awpG_splitN (fun h => ?_) (fun h => ?_) | refine awpG_split (fun h => ?_) (fun h => ?_)) <;> simp only [h, nb3_b2, nb2_b3, RR, seval])
    all_goals
      refine hK _ _ ?_; clear hK K
      refine awp_if true rfl (fun _ => ?_) (fun hc => by cases hc)
      refine awp_seq_k fun K hK => ?_
      refine awp_region rfl ?_
      simp only [nb3_b2, nb2_b3, RR, seval]
      refine hK _ _ ?_; clear hK K
      refine awp_ret ?_; simp only [bodyQ, aresult, ares, nb3_b2, nb2_b3, RR, seval]
      refine Gives.pure ?_
      rfl
  | true =>
    rw [hc] at hF
    have hR := hR hc
    generalize rightP p = RP at hR
    clear hw hE hc hp he
    cases RP
    · clear h0 h1 h2 h3 h4 ht
      refine con_of 160 [.tmp 4] Tryd.func6 rfl rfl rfl rfl ?_
      refine awp_seq_k fun K hK => ?_
      refine awp_region rfl ?_
      simp only [RR, seval]
      refine awpN_intro fun b2 hn2 => ?_
      simp only [RR, seval]
      refine awpN_intro fun b3 hn3 => ?_
      have nb3_b2 : b3 ≠ b2 := fun e => by rw [e] at hn3; simp only [RR, seval, reduceCtorEq] at hn3
      have nb2_b3 : b2 ≠ b3 := fun e => nb3_b2 e.symm
      simp only [nb3_b2, nb2_b3, RR, seval]
      refine hK _ _ ?_; clear hK K
      refine awp_seq ?_
      refine awp_seq_k fun K hK => ?_
      refine awp_region rfl ?_
      simp only [nb3_b2, nb2_b3, RR, seval]
      refine awpC_pure' (awake_con) ?_
      simp only [nb3_b2, nb2_b3, RR, seval]
      refine hK _ _ ?_; clear hK K
      refine awp_if false rfl (fun hc => by cases hc) (fun _ => ?_)
      refine awp_skip ?_; try simp only [RR]
      refine awp_seq ?_
      refine awp_seq_k fun K hK => ?_
      refine awp_region rfl ?_
      simp only [nb3_b2, nb2_b3, RR, seval]
      all_goals try (refine awpC_pure' (hF) ?_; simp only [nb3_b2, nb2_b3, RR, seval])
      all_goals try ((first | refine awpG_splitN (fun h => ?_) (fun h => ?_) | refine awpG_split (fun h => ?_) (fun h => ?_)) <;> simp only [h, nb3_b2, nb2_b3, RR, seval])
      all_goals try (refine awpC_pure' (hR) ?_; simp only [nb3_b2, nb2_b3, RR, seval])
      all_goals try ((first | refine awpG_splitN (fun h => ?_) (fun h => ?_) | refine awpG_split (fun h => ?_) (fun h => ?_)) <;> simp only [h, nb3_b2, nb2_b3, RR, seval])
      all_goals try (refine awpB_sealed ?_; simp only [nb3_b2, nb2_b3, RR, seval])
      all_goals try ((first | refine awpG_splitN (fun h => ?_) (fun h => ?_) | refine awpG_split (fun h => ?_) (fun h => ?_)) <;> simp only [h, nb3_b2, nb2_b3, RR, seval])
      all_goals
        refine hK _ _ ?_; clear hK K
        refine awp_if true rfl (fun _ => ?_) (fun hc => by cases hc)
        refine awp_seq_k fun K hK => ?_
        refine awp_region rfl ?_
        simp only [nb3_b2, nb2_b3, RR, seval]
        refine hK _ _ ?_; clear hK K
        refine awp_ret ?_; simp only [bodyQ, aresult, ares, nb3_b2, nb2_b3, RR, seval]
        refine Gives.pure ?_
        rfl
    · cases LB
      · cases RX
        · clear h0 h1 h2 h3 h4 ht
          refine con_of 160 [.tmp 4] Tryd.func6 rfl rfl rfl rfl ?_
          refine awp_seq_k fun K hK => ?_
          refine awp_region rfl ?_
          simp only [zl, RR, seval]
          refine awpN_intro fun b2 hn2 => ?_
          simp only [zl, RR, seval]
          refine awpN_intro fun b3 hn3 => ?_
          have nb3_b2 : b3 ≠ b2 := fun e => by rw [e] at hn3; simp only [zl, RR, seval, reduceCtorEq] at hn3
          have nb2_b3 : b2 ≠ b3 := fun e => nb3_b2 e.symm
          simp only [nb3_b2, nb2_b3, zl, RR, seval]
          refine hK _ _ ?_; clear hK K
          refine awp_seq ?_
          refine awp_seq_k fun K hK => ?_
          refine awp_region rfl ?_
          simp only [nb3_b2, nb2_b3, zl, RR, seval]
          refine awpC_pure' (awake_con) ?_
          simp only [nb3_b2, nb2_b3, zl, RR, seval]
          refine hK _ _ ?_; clear hK K
          refine awp_if false rfl (fun hc => by cases hc) (fun _ => ?_)
          refine awp_skip ?_; try simp only [RR]
          refine awp_seq ?_
          refine awp_seq_k fun K hK => ?_
          refine awp_region rfl ?_
          simp only [nb3_b2, nb2_b3, zl, RR, seval]
          all_goals try (refine awpC_pure' (hF) ?_; simp only [nb3_b2, nb2_b3, zl, RR, seval])
          all_goals try ((first | refine awpG_splitN (fun h => ?_) (fun h => ?_) | refine awpG_split (fun h => ?_) (fun h => ?_)) <;> simp only [h, nb3_b2, nb2_b3, zl, RR, seval])
          all_goals try (refine awpC_pure' (hR) ?_; simp only [nb3_b2, nb2_b3, zl, RR, seval])
          all_goals try ((first | refine awpG_splitN (fun h => ?_) (fun h => ?_) | refine awpG_split (fun h => ?_) (fun h => ?_)) <;> simp only [h, nb3_b2, nb2_b3, zl, RR, seval])
          all_goals try (refine awpB_sealed ?_; simp only [nb3_b2, nb2_b3, zl, RR, seval])
          all_goals try (refine awpC_pure' (hL) ?_; simp only [nb3_b2, nb2_b3, zl, RR, seval])
          all_goals try ((first | refine awpG_splitN (fun h => ?_) (fun h => ?_) | refine awpG_split (fun h => ?_) (fun h => ?_)) <;> simp only [h, nb3_b2, nb2_b3, zl, RR, seval])
          all_goals try (refine awpC_pure' (hX) ?_; simp only [nb3_b2, nb2_b3, zl, RR, seval])
          all_goals
            refine hK _ _ ?_; clear hK K
            refine awp_if true rfl (fun _ => ?_) (fun hc => by cases hc)
            refine awp_seq_k fun K hK => ?_
            refine awp_region rfl ?_
            simp only [nb3_b2, nb2_b3, zl, RR, seval]
            refine hK _ _ ?_; clear hK K
            refine awp_ret ?_; simp only [bodyQ, aresult, ares, nb3_b2, nb2_b3, zl, RR, seval]
            refine Gives.pure ?_
            rfl
        · cases K <;> rcases ht with rfl | rfl | rfl
          all_goals
            simp only [if_true, if_false, Bool.false_eq_true, Int.reduceEq, reduceIte] at h0 h1 h2 h3 h4
            refine con_of 160 [.tmp 4] Tryd.func6 rfl rfl rfl rfl ?_
            refine awp_seq_k fun K hK => ?_
            refine awp_region rfl ?_
            simp only [zl, RR, seval]
            refine awpN_intro fun b2 hn2 => ?_
            simp only [zl, RR, seval]
            refine awpN_intro fun b3 hn3 => ?_
            have nb3_b2 : b3 ≠ b2 := fun e => by rw [e] at hn3; simp only [zl, RR, seval, reduceCtorEq] at hn3
            have nb2_b3 : b2 ≠ b3 := fun e => nb3_b2 e.symm
            simp only [nb3_b2, nb2_b3, zl, RR, seval]
            refine hK _ _ ?_; clear hK K
            refine awp_seq ?_
            refine awp_seq_k fun K hK => ?_
            refine awp_region rfl ?_
            simp only [nb3_b2, nb2_b3, zl, RR, seval]
            refine awpC_pure' (awake_con) ?_
            simp only [nb3_b2, nb2_b3, zl, RR, seval]
            refine hK _ _ ?_; clear hK K
            refine awp_if false rfl (fun hc => by cases hc) (fun _ => ?_)
            refine awp_skip ?_; try simp only [RR]
            refine awp_seq ?_
            refine awp_seq_k fun K hK => ?_
            refine awp_region rfl ?_
            simp only [nb3_b2, nb2_b3, zl, RR, seval]
            all_goals try (refine awpC_pure' (hF) ?_; simp only [nb3_b2, nb2_b3, zl, RR, seval])
            all_goals try ((first | refine awpG_splitN (fun h => ?_) (fun h => ?_) | refine awpG_split (fun h => ?_) (fun h => ?_)) <;> simp only [h, nb3_b2, nb2_b3, zl, RR, seval])
            all_goals try (refine awpC_pure' (hR) ?_; simp only [nb3_b2, nb2_b3, zl, RR, seval])
            all_goals try ((first | refine awpG_splitN (fun h => ?_) (fun h => ?_) | refine awpG_split (fun h => ?_) (fun h => ?_)) <;> simp only [h, nb3_b2, nb2_b3, zl, RR, seval])
            all_goals try (refine awpB_sealed ?_; simp only [nb3_b2, nb2_b3, zl, RR, seval])
            all_goals try (refine awpC_pure' (hL) ?_; simp only [nb3_b2, nb2_b3, zl, RR, seval])
            all_goals try ((first | refine awpG_splitN (fun h => ?_) (fun h => ?_) | refine awpG_split (fun h => ?_) (fun h => ?_)) <;> simp only [h, nb3_b2, nb2_b3, zl, RR, seval])
            all_goals try (refine awpC_pure' (hX) ?_; simp only [nb3_b2, nb2_b3, zl, RR, seval])
            all_goals
              refine hK _ _ ?_; clear hK K
              refine awp_if false rfl (fun hc => by cases hc) (fun _ => ?_)
              refine awp_skip ?_; try simp only [RR]
              refine awp_seq_k fun K hK => ?_
              refine awp_region rfl ?_
              simp only [nb3_b2, nb2_b3, zl, RR, seval]
              refine awpC_pure' (h0) ?_
              simp only [nb3_b2, nb2_b3, zl, RR, seval]
              refine hK _ _ ?_; clear hK K
              refine awp_seq ?_
              refine awp_seq_k fun K hK => ?_
              refine awp_region rfl ?_
              simp only [nb3_b2, nb2_b3, zl, RR, seval]
              refine hK _ _ ?_; clear hK K
              refine awp_if _ rfl (fun hc6 => ?_) (fun hc6 => ?_)
              · try (cases hc6; done)
                all_goals
                  refine awp_seq_k fun K hK => ?_
                  refine awp_region_draw2 (fun x => x ≠ b2 ∧ x ≠ b3) [(0, 0), (1, 1), (2, 1), (3, 1), (4, 1), (5, 3), (6, 3), (7, 3), (8, 3), (9, 3)] [] draws (by kernel_rfl) rfl rfl ?_
                  simp only [emitF, markOf, touch_mp, touch_imp, touch_nmp, ne_eq, not_true_eq_false, and_false, false_and, not_false_eq_true, nb3_b2, nb2_b3, zl, RR, seval]
                  refine awpC_pure' (ba) ?_
                  simp only [emitF, markOf, touch_mp, touch_imp, touch_nmp, ne_eq, not_true_eq_false, and_false, false_and, not_false_eq_true, nb3_b2, nb2_b3, zl, RR, seval]
                  refine awpC_pure' (h1) ?_
                  simp only [emitF, markOf, touch_mp, touch_imp, touch_nmp, ne_eq, not_true_eq_false, and_false, false_and, not_false_eq_true, nb3_b2, nb2_b3, zl, RR, seval]
                  refine hK _ _ ?_; clear hK K
                  refine awp_seq_k fun K hK => ?_
                  refine awp_region rfl ?_
                  simp only [nb3_b2, nb2_b3, zl, RR, seval]
                  refine awpB_sealed ?_
                  simp only [nb3_b2, nb2_b3, zl, RR, seval]
                  refine awpC_pure' (h3) ?_
                  simp only [nb3_b2, nb2_b3, zl, RR, seval]
                  refine hK _ _ ?_; clear hK K
                  refine awp_seq_k fun K hK => ?_
                  refine awp_region rfl ?_
                  simp only [nb3_b2, nb2_b3, zl, RR, seval]
                  refine hK _ _ ?_; clear hK K
                  refine awp_ret ?_; simp only [bodyQ, aresult, ares, nb3_b2, nb2_b3, zl, RR, seval]
                  refine Gives.pure ?_
                  rfl
              · try (cases hc6; done)
                all_goals
                  refine awp_skip ?_; try simp only [RR]
                  refine awp_seq_k fun K hK => ?_
                  refine awp_region rfl ?_
                  simp only [nb3_b2, nb2_b3, zl, RR, seval]
                  refine hK _ _ ?_; clear hK K
                  refine awp_seq_k fun K hK => ?_
                  refine awp_region_draw2 (fun x => x ≠ b2 ∧ x ≠ b3) [(0, 0), (1, 1), (2, 1), (3, 1), (4, 1), (5, 3), (6, 3), (7, 3), (8, 3), (9, 3)] [] draws (by kernel_rfl) rfl rfl ?_
                  simp only [emitF, markOf, touch_mp, touch_imp, touch_nmp, ne_eq, not_true_eq_false, and_false, false_and, not_false_eq_true, nb3_b2, nb2_b3, zl, RR, seval]
                  refine awpC_pure' (ba) ?_
                  simp only [emitF, markOf, touch_mp, touch_imp, touch_nmp, ne_eq, not_true_eq_false, and_false, false_and, not_false_eq_true, nb3_b2, nb2_b3, zl, RR, seval]
                  refine awpC_pure' (h1) ?_
                  simp only [emitF, markOf, touch_mp, touch_imp, touch_nmp, ne_eq, not_true_eq_false, and_false, false_and, not_false_eq_true, nb3_b2, nb2_b3, zl, RR, seval]
                  refine hK _ _ ?_; clear hK K
                  refine awp_seq_k fun K hK => ?_
                  refine awp_region_draw2 (fun x => x ≠ b2 ∧ x ≠ b3) [(0, 0), (1, 1), (2, 1), (3, 1), (4, 1), (5, 3), (6, 3), (7, 3), (8, 3), (9, 3)] [] draws (by kernel_rfl) rfl rfl ?_
                  simp only [emitF, markOf, touch_mp, touch_imp, touch_nmp, ne_eq, not_true_eq_false, and_false, false_and, not_false_eq_true, nb3_b2, nb2_b3, zl, RR, seval]
                  refine awpC_pure' (bl) ?_
                  simp only [emitF, markOf, touch_mp, touch_imp, touch_nmp, ne_eq, not_true_eq_false, and_false, false_and, not_false_eq_true, nb3_b2, nb2_b3, zl, RR, seval]
                  refine awpC_pure' (h2) ?_
                  simp only [emitF, markOf, touch_mp, touch_imp, touch_nmp, ne_eq, not_true_eq_false, and_false, false_and, not_false_eq_true, nb3_b2, nb2_b3, zl, RR, seval]
                  refine hK _ _ ?_; clear hK K
                  refine awp_seq_k fun K hK => ?_
                  refine awp_region rfl ?_
                  simp only [nb3_b2, nb2_b3, zl, RR, seval]
                  refine awpB_sealed ?_
                  simp only [nb3_b2, nb2_b3, zl, RR, seval]
                  refine awpC_pure' (h3) ?_
                  simp only [nb3_b2, nb2_b3, zl, RR, seval]
                  refine hK _ _ ?_; clear hK K
                  refine awp_seq_k fun K hK => ?_
                  refine awp_region_draw2 (fun x => x ≠ b2 ∧ x ≠ b3) [(0, 0), (1, 1), (2, 1), (3, 1), (4, 1), (5, 3), (6, 3), (7, 3), (8, 3), (9, 3)] [] draws (by kernel_rfl) rfl rfl ?_
                  simp only [emitF, markOf, touch_mp, touch_imp, touch_nmp, ne_eq, not_true_eq_false, and_false, false_and, not_false_eq_true, nb3_b2, nb2_b3, zl, RR, seval]
                  refine awpC_pure' (bn) ?_
                  simp only [emitF, markOf, touch_mp, touch_imp, touch_nmp, ne_eq, not_true_eq_false, and_false, false_and, not_false_eq_true, nb3_b2, nb2_b3, zl, RR, seval]
                  refine awpC_pure' (h4) ?_
                  simp only [emitF, markOf, touch_mp, touch_imp, touch_nmp, ne_eq, not_true_eq_false, and_false, false_and, not_false_eq_true, nb3_b2, nb2_b3, zl, RR, seval]
                  refine hK _ _ ?_; clear hK K
                  refine awp_seq ?_
                  refine awp_seq_k fun K hK => ?_
                  refine awp_region rfl ?_
                  simp only [nb3_b2, nb2_b3, zl, RR, seval]
                  refine hK _ _ ?_; clear hK K
                  refine awp_if _ rfl (fun hc15 => ?_) (fun hc15 => ?_)
                  · try (cases hc15; done)
                    all_goals
                      refine awp_seq_k fun K hK => ?_
                      refine awp_region rfl ?_
                      simp only [nb3_b2, nb2_b3, zl, RR, seval]
                      refine hK _ _ ?_; clear hK K
                      refine awp_ret ?_; simp only [bodyQ, aresult, ares, nb3_b2, nb2_b3, zl, RR, seval]
                      refine Gives.pure ?_
                      rfl
                  · try (cases hc15; done)
                    all_goals
                      refine awp_skip ?_; try simp only [RR]
                      refine awp_seq_k fun K hK => ?_
                      refine awp_region rfl ?_
                      simp only [nb3_b2, nb2_b3, zl, RR, seval]
                      refine hK _ _ ?_; clear hK K
                      refine awp_ret ?_; simp only [bodyQ, aresult, ares, nb3_b2, nb2_b3, zl, RR, seval]
                      refine Gives.pure ?_
                      rfl
      · clear h0 h1 h2 h3 h4 ht
        refine con_of 160 [.tmp 4] Tryd.func6 rfl rfl rfl rfl ?_
        refine awp_seq_k fun K hK => ?_
        refine awp_region rfl ?_
        simp only [zl, RR, seval]
        refine awpN_intro fun b2 hn2 => ?_
        simp only [zl, RR, seval]
        refine awpN_intro fun b3 hn3 => ?_
        have nb3_b2 : b3 ≠ b2 := fun e => by rw [e] at hn3; simp only [zl, RR, seval, reduceCtorEq] at hn3
        have nb2_b3 : b2 ≠ b3 := fun e => nb3_b2 e.symm
        simp only [nb3_b2, nb2_b3, zl, RR, seval]
        refine hK _ _ ?_; clear hK K
        refine awp_seq ?_
        refine awp_seq_k fun K hK => ?_
        refine awp_region rfl ?_
        simp only [nb3_b2, nb2_b3, zl, RR, seval]
        refine awpC_pure' (awake_con) ?_
        simp only [nb3_b2, nb2_b3, zl, RR, seval]
        refine hK _ _ ?_; clear hK K
        refine awp_if false rfl (fun hc => by cases hc) (fun _ => ?_)
        refine awp_skip ?_; try simp only [RR]
        refine awp_seq ?_
        refine awp_seq_k fun K hK => ?_
        refine awp_region rfl ?_
        simp only [nb3_b2, nb2_b3, zl, RR, seval]
        all_goals try (refine awpC_pure' (hF) ?_; simp only [nb3_b2, nb2_b3, zl, RR, seval])
        all_goals try ((first | refine awpG_splitN (fun h => ?_) (fun h => ?_) | refine awpG_split (fun h => ?_) (fun h => ?_)) <;> simp only [h, nb3_b2, nb2_b3, zl, RR, seval])
        all_goals try (refine awpC_pure' (hR) ?_; simp only [nb3_b2, nb2_b3, zl, RR, seval])
        all_goals try ((first | refine awpG_splitN (fun h => ?_) (fun h => ?_) | refine awpG_split (fun h => ?_) (fun h => ?_)) <;> simp only [h, nb3_b2, nb2_b3, zl, RR, seval])
        all_goals try (refine awpB_sealed ?_; simp only [nb3_b2, nb2_b3, zl, RR, seval])
        all_goals try (refine awpC_pure' (hL) ?_; simp only [nb3_b2, nb2_b3, zl, RR, seval])
        all_goals try ((first | refine awpG_splitN (fun h => ?_) (fun h => ?_) | refine awpG_split (fun h => ?_) (fun h => ?_)) <;> simp only [h, nb3_b2, nb2_b3, zl, RR, seval])
        all_goals
          refine hK _ _ ?_; clear hK K
          refine awp_if true rfl (fun _ => ?_) (fun hc => by cases hc)
          refine awp_seq_k fun K hK => ?_
          refine awp_region rfl ?_
          simp only [nb3_b2, nb2_b3, zl, RR, seval]
          refine hK _ _ ?_; clear hK K
          refine awp_ret ?_; simp only [bodyQ, aresult, ares, nb3_b2, nb2_b3, zl, RR, seval]
          refine Gives.pure ?_
          rfl
end Go.Proofs.YtefjogkgeelbdaaDoor
