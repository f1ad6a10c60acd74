/- Chapter 15: ParseExprs: the law's contract. -/
import Derived.Test.YtlpeikljipknoaaDoorGAw
import Derived.Test.YtlpeikljipknoaaDoorJg
set_option linter.unusedSimpArgs false
set_option linter.unusedVariables false
set_option maxRecDepth 10000
namespace Go.Proofs.YtlpeikljipknoaaDoor
open Go.Al
theorem ParseExprs_con (s : Str) : PCon env 4 [.str s] (.bool true) := by
  by_cases hs : 500 < s.length
  · have hd : decide ((500 : Int) < (s.length : Int)) = true := decide_eq_true (by omega)
    refine con_of 41 [.tmp 2] Tryd.func4 rfl rfl rfl rfl ?_
    refine awp_seq_k fun K hK => ?_
    refine awp_region rfl ?_
    simp only [hd, RR, seval]
    refine hK _ _ ?_; clear hK K
    refine awp_seq ?_
    refine awp_seq_k fun K hK => ?_
    refine awp_region rfl ?_
    simp only [hd, RR, seval]
    refine hK _ _ ?_; clear hK K
    refine awp_if true rfl (fun _ => ?_) (fun hc => by cases hc)
    refine awp_seq_k fun K hK => ?_
    refine awp_region rfl ?_
    simp only [hd, RR, seval]
    refine awpC_pure' (awake_con) ?_
    simp only [hd, RR, seval]
    refine hK _ _ ?_; clear hK K
    refine awp_ret ?_; simp only [bodyQ, aresult, ares, hd, RR, seval]
    refine Gives.pure ?_
    rfl
  · have hd : decide ((500 : Int) < (s.length : Int)) = false := decide_eq_false (by omega)
    have e1 := pExpr_con s (by omega)
    have e2 := rExpr_con s (by omega)
    have hok := srcE_ok s
    generalize srcE s = r at e1 e2 hok
    obtain ⟨p, i, j⟩ := r
    have e3 := rSameExpr_con p p hok hok
    rw [eqB_self] at e3
    simp only [resE, Ex.row_eq] at e1 e2 e3
    refine con_of 41 [.tmp 2] Tryd.func4 rfl rfl rfl rfl ?_
    refine awp_seq_k fun K hK => ?_
    refine awp_region rfl ?_
    simp only [hd, RR, seval]
    refine hK _ _ ?_; clear hK K
    refine awp_seq ?_
    refine awp_seq_k fun K hK => ?_
    refine awp_region rfl ?_
    simp only [hd, RR, seval]
    refine hK _ _ ?_; clear hK K
    refine awp_if false rfl (fun hc => by cases hc) (fun _ => ?_)
    refine awp_skip ?_; try simp only [RR]
    refine awp_seq_k fun K hK => ?_
    refine awp_region rfl ?_
    simp only [hd, RR, seval]
    refine awpC_pure' (e1) ?_
    simp only [hd, RR, seval]
    refine awpN_intro fun b3 hn3 => ?_
    simp only [hd, RR, seval]
    refine hK _ _ ?_; clear hK K
    refine awp_seq_k fun K hK => ?_
    refine awp_region rfl ?_
    simp only [hd, RR, seval]
    refine awpC_pure' (e2) ?_
    simp only [hd, RR, seval]
    refine awpN_intro fun b6 hn6 => ?_
    have nb6_b3 : b6 ≠ b3 := fun e => by rw [e] at hn6; simp only [RR, seval, reduceCtorEq] at hn6
    have nb3_b6 : b3 ≠ b6 := fun e => nb6_b3 e.symm
    simp only [nb6_b3, nb3_b6, hd, RR, seval]
    refine hK _ _ ?_; clear hK K
    refine awp_seq_k fun K hK => ?_
    refine awp_region rfl ?_
    simp only [nb6_b3, nb3_b6, hd, RR, seval]
    refine awpC_pure' (awake_con) ?_
    simp only [nb6_b3, nb3_b6, hd, RR, seval]
    refine awpC_pure' (e3) ?_
    simp only [nb6_b3, nb3_b6, hd, RR, seval]
    refine hK _ _ ?_; clear hK K
    refine awp_ret ?_; simp only [bodyQ, aresult, ares, hd, RR, seval]
    refine Gives.pure ?_
    simp
end Go.Proofs.YtlpeikljipknoaaDoor
