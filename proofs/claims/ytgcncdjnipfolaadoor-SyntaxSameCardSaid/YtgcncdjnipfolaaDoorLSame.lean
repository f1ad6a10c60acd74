/- SyntaxSame: the law's contract. -/
import Derived.Test.YtgcncdjnipfolaaDoorFw
set_option linter.unusedSimpArgs false
set_option linter.unusedVariables false
set_option maxRecDepth 10000
namespace Go.Proofs.YtgcncdjnipfolaaDoor
open Go.Al
theorem SyntaxSame_con (p : Pg) (hp : p.ok) (q : Pg) (hq : q.ok) : PCon env 4 [p.av, q.av] (.bool true) := by
  have hF := Few_con p hp 400 (by omega) (by omega)
  have hG := Few_con q hq 400 (by omega) (by omega)
  have s1 := pSame_con p q hp hq
  have s2 := Same_con p q hp hq
  have s3 := pSame_con q p hq hp
  have s4 := pSame_con p p hp hp
  rw [eqB_symm] at s3
  rw [eqB_self] at s4
  generalize eqB p q = res at *
  simp only [Pg.av, Pg.row] at *
  refine con_of 36 [.tmp 4] Tryd.func4 rfl rfl rfl rfl ?_
  refine awp_seq_k fun K hK => ?_
  refine awp_region rfl ?_
  simp only [RR, seval]
  refine awpN_intro fun b2 hn2 => ?_
  simp only [RR, seval]
  refine awpN_intro fun b3 hn3 => ?_
  have nb3_b2 : b3 ≠ b2 := fun e => by rw [e] at hn3; simp only [RR, seval, reduceCtorEq] at hn3
  have nb2_b3 : b2 ≠ b3 := fun e => nb3_b2 e.symm
  simp only [nb3_b2, nb2_b3, RR, seval]
  refine hK _ _ ?_; clear hK K
  refine awp_seq ?_
  refine awp_seq_k fun K hK => ?_
  refine awp_region rfl ?_
  simp only [nb3_b2, nb2_b3, RR, seval]
  refine awpC_pure' (awake_con) ?_
  simp only [nb3_b2, nb2_b3, RR, seval]
  refine hK _ _ ?_; clear hK K
  refine awp_if _ rfl (fun hc1 => ?_) (fun hc1 => ?_)
  · simp at hc1
  · refine awp_skip ?_; try simp only [RR]
    refine awp_seq ?_
    refine awp_seq_k fun K hK => ?_
    refine awp_region rfl ?_
    simp only [nb3_b2, nb2_b3, RR, seval]
    all_goals try (refine awpC_pure' (hF) ?_; simp only [nb3_b2, nb2_b3, RR, seval])
    all_goals try ((first | refine awpG_splitN (fun h => ?_) (fun h => ?_) | refine awpG_split (fun h => ?_) (fun h => ?_)) <;> simp only [h, nb3_b2, nb2_b3, RR, seval])
    all_goals try (refine awpC_pure' (hG) ?_; simp only [nb3_b2, nb2_b3, RR, seval])
    all_goals
      refine hK _ _ ?_; clear hK K
      refine awp_if _ rfl (fun hc3 => ?_) (fun hc3 => ?_)
      · try (cases hc3; done)
        all_goals
          refine awp_seq_k fun K hK => ?_
          refine awp_region rfl ?_
          simp only [RR, seval]
          refine hK _ _ ?_; clear hK K
          refine awp_ret ?_; simp only [bodyQ, aresult, ares, RR, seval]
          refine Gives.pure ?_
          rfl
      · try (cases hc3; done)
        all_goals
          refine awp_skip ?_; try simp only [RR]
          refine awp_seq_k fun K hK => ?_
          refine awp_region_draw2 (fun x => x ≠ b2 ∧ x ≠ b3) [(0, 1), (1, 1), (3, 0), (4, 0), (2, 1), (5, 1), (6, 3), (7, 3), (8, 1), (9, 1), (11, 0), (12, 0), (10, 1), (13, 1), (14, 3), (15, 3), (16, 3), (17, 1), (18, 1), (19, 1), (20, 3), (21, 3)] [] draws (by kernel_rfl) rfl rfl ?_
          simp only [emitF, markOf, EM, nb3_b2, nb2_b3, RR, seval]
          all_goals try (refine awpC_pure' (s1) ?_; simp only [emitF, markOf, EM, nb3_b2, nb2_b3, RR, seval])
          all_goals try (refine awpC_pure' (s2) ?_; simp only [emitF, markOf, EM, nb3_b2, nb2_b3, RR, seval])
          all_goals try ((first | refine awpG_splitN (fun h => ?_) (fun h => ?_) | refine awpG_split (fun h => ?_) (fun h => ?_)) <;> simp only [h, emitF, markOf, EM, nb3_b2, nb2_b3, RR, seval])
          all_goals try (refine awpC_pure' (s3) ?_; simp only [emitF, markOf, EM, nb3_b2, nb2_b3, RR, seval])
          all_goals try (refine awpC_pure' (s2) ?_; simp only [emitF, markOf, EM, nb3_b2, nb2_b3, RR, seval])
          all_goals try ((first | refine awpG_splitN (fun h => ?_) (fun h => ?_) | refine awpG_split (fun h => ?_) (fun h => ?_)) <;> simp only [h, emitF, markOf, EM, nb3_b2, nb2_b3, RR, seval])
          all_goals try (refine awpC_pure' (s4) ?_; simp only [emitF, markOf, EM, nb3_b2, nb2_b3, RR, seval])
          all_goals
            refine hK _ _ ?_; clear hK K
            refine awp_ret ?_; simp only [bodyQ, aresult, ares, RR, seval]
            refine Gives.pure ?_
            first | rfl | simp
end Go.Proofs.YtgcncdjnipfolaaDoor
