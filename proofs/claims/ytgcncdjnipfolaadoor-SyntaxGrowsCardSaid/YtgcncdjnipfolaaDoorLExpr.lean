/- SyntaxExpr: the law's contract. -/
import Derived.Test.YtgcncdjnipfolaaDoorGFw
set_option linter.unusedSimpArgs false
set_option linter.unusedVariables false
set_option maxRecDepth 10000
namespace Go.Proofs.YtgcncdjnipfolaaDoor
open Go.Al
theorem RightExpr_con (e : Ex) (he : e.ok) (level : Int) (h1 : -1000000 ≤ level) (h2 : level ≤ 999999) : PCon env 21 [.agg e.row, .int .i64 level] (.bool (rightX e level)) :=
  RightExpr_step e he level h1 (by omega) fun _ => RightExprs_con _ e.kids (level + 1) rfl he.kids (by omega) (by omega)
theorem left_sz {e : Ex} {m deep : Int} (h : 0 ≤ leftE [e] m deep) : (e.sz : Int) ≤ m := by
  have := leftE_sz _ [e] m deep (Nat.le_refl _) h
  simp only [szE] at this
  omega
theorem SyntaxExpr_con (e : Ex) (he : e.ok) : PCon env 6 [.agg e.row] (.bool true) := by
  have hL := LeftExprs_con _ [e] 200 60 (Nat.le_refl _) (okE_1 he) (by omega) (by omega) (by omega) (by omega)
  have hR := RightExpr_con e he 1 (by omega) (by omega)
  have hx := fun (r : rightX e 1 = true) (h : e.sz ≤ 200) => Expr_con e 1 he r (by have := (prE_len e.sz).1 e 1 (Nat.le_refl _) he r; omega)
  have hj := fun (r : rightX e 1 = true) (h : e.sz ≤ 200) => jexpr_con 200 (by omega) e 1 h he r
  have hsz : 0 ≤ leftE [e] 200 60 → e.sz ≤ 200 := fun h => by have := left_sz h; omega
  unfold JE at hj
  simp only [List.map_cons, List.map_nil, Ex.row_eq] at *
  generalize prE e = out at *
  refine con_of 19 [.tmp 2] Tryd.func6 rfl rfl rfl rfl ?_
  refine awp_seq_k fun K hK => ?_
  refine awp_region rfl ?_
  simp only [RR, seval]
  refine awpN_intro fun b1 hn1 => ?_
  simp only [RR, seval]
  refine hK _ _ ?_; clear hK K
  refine awp_seq ?_
  refine awp_seq_k fun K hK => ?_
  refine awp_region rfl ?_
  simp only [RR, seval]
  refine awpC_pure' (awake_con) ?_
  simp only [RR, seval]
  refine hK _ _ ?_; clear hK K
  refine awp_if _ rfl (fun hc1 => ?_) (fun hc1 => ?_)
  · simp at hc1
  · refine awp_skip ?_; try simp only [RR]
    refine awp_seq ?_
    refine awp_seq_k fun K hK => ?_
    refine awp_region rfl ?_
    simp only [RR, seval]
    all_goals try (refine awpB_sealed ?_; simp only [RR, seval])
    all_goals try (refine awpC_pure' (hL) ?_; simp only [RR, seval])
    all_goals try ((first | refine awpG_splitN (fun h => ?_) (fun h => ?_) | refine awpG_split (fun h => ?_) (fun h => ?_)) <;> simp only [h, RR, seval])
    all_goals try (refine awpC_pure' (hR) ?_; simp only [RR, seval])
    all_goals
      refine hK _ _ ?_; clear hK K
      refine awp_if _ rfl (fun hc3 => ?_) (fun hc3 => ?_)
      · try (cases hc3; done)
        all_goals
          refine awp_seq_k fun K hK => ?_
          refine awp_region rfl ?_
          simp only [RR, seval]
          refine hK _ _ ?_; clear hK K
          refine awp_ret ?_; simp only [bodyQ, aresult, ares, RR, seval]
          refine Gives.pure ?_
          rfl
      · try (cases hc3; done)
        all_goals
          have hl : 0 ≤ leftE [e] 200 60 := by simp_all
          have hr : rightX e 1 = true := by simp_all
          refine awp_skip ?_; try simp only [RR]
          refine awp_seq_k fun K hK => ?_
          refine awp_region_draw2 (fun x => x ≠ b1) [(0, 1), (2, 0), (1, 1), (3, 1), (4, 3), (5, 3)] [] draws (by kernel_rfl) rfl rfl ?_
          simp only [emitF, markOf, EM, RR, seval]
          refine awpC_pure' (hx hr (hsz hl)) ?_
          simp only [emitF, markOf, EM, RR, seval]
          refine awpC_pure' (hj hr (hsz hl)) ?_
          simp only [emitF, markOf, EM, RR, seval]
          refine hK _ _ ?_; clear hK K
          refine awp_ret ?_; simp only [bodyQ, aresult, ares, RR, seval]
          refine Gives.pure ?_
          first | rfl | simp
end Go.Proofs.YtgcncdjnipfolaaDoor
