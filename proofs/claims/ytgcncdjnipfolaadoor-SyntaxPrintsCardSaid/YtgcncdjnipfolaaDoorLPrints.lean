/- SyntaxPrints: the law's contract. -/
import Derived.Test.YtgcncdjnipfolaaDoorFw
set_option linter.unusedSimpArgs false
set_option linter.unusedVariables false
set_option maxRecDepth 10000
namespace Go.Proofs.YtgcncdjnipfolaaDoor
open Go.Al
theorem SyntaxPrints_con (p : Pg) (hp : p.ok) : PCon env 5 [p.av] (.bool true) := by
  have hF := Few_con p hp 200 (by omega) (by omega)
  have hw := fun h => Fw.of hp (m := 200) (by omega) h
  have hR := fun h => (hw h).right
  have hs := fun h => (hw h).size
  have hs2 := fun h => (hw h).psize
  have hp1 := fun h r => (hw h).pPrint r
  have hp2 := fun h r => (hw h).jPrint r
  generalize sizP p = sz at *
  generalize prP p = out at *
  simp only [Pg.av, Pg.row] at *
  refine con_of 25 [.tmp 2] Tryd.func5 rfl rfl rfl rfl ?_
  refine awp_seq_k fun K hK => ?_
  refine awp_region rfl ?_
  simp only [RR, seval]
  refine awpN_intro fun b1 hn1 => ?_
  simp only [RR, seval]
  refine hK _ _ ?_; clear hK K
  refine awp_seq ?_
  refine awp_seq_k fun K hK => ?_
  refine awp_region rfl ?_
  simp only [RR, seval]
  refine awpC_pure' (awake_con) ?_
  simp only [RR, seval]
  refine hK _ _ ?_; clear hK K
  refine awp_if _ rfl (fun hc1 => ?_) (fun hc1 => ?_)
  · simp at hc1
  · refine awp_skip ?_; try simp only [RR]
    refine awp_seq ?_
    refine awp_seq_k fun K hK => ?_
    refine awp_region rfl ?_
    simp only [RR, seval]
    all_goals try (refine awpC_pure' (hF) ?_; simp only [RR, seval])
    all_goals try ((first | refine awpG_splitN (fun h => ?_) (fun h => ?_) | refine awpG_split (fun h => ?_) (fun h => ?_)) <;> simp only [h, RR, seval])
    all_goals try (refine awpC_pure' (hR (by simpa using h)) ?_; simp only [RR, seval])
    all_goals
      skip
      refine hK _ _ ?_; clear hK K
      refine awp_if _ rfl (fun hc3 => ?_) (fun hc3 => ?_)
      · try (cases hc3; done)
        all_goals
          refine awp_seq_k fun K hK => ?_
          refine awp_region rfl ?_
          simp only [RR, seval]
          refine hK _ _ ?_; clear hK K
          refine awp_ret ?_; simp only [bodyQ, aresult, ares, RR, seval]
          refine Gives.pure ?_
          rfl
      · try (cases hc3; done)
        all_goals
          have hfew : fewB p 200 = true := by simp_all
          have hr : rightP p = true := by simp_all
          refine awp_skip ?_; try simp only [RR]
          refine awp_seq_k fun K hK => ?_
          refine awp_region_draw2 (fun x => x ≠ b1) [(0, 1), (2, 0), (1, 1), (3, 1), (4, 3), (5, 3), (6, 1), (8, 0), (7, 1), (9, 1), (10, 3), (11, 3), (12, 3)] [] draws (by kernel_rfl) rfl rfl ?_
          simp only [emitF, markOf, EM, RR, seval]
          all_goals try (refine awpC_pure' (hs2 hfew) ?_; simp only [emitF, markOf, EM, RR, seval])
          all_goals try (refine awpC_pure' (hs hfew) ?_; simp only [emitF, markOf, EM, RR, seval])
          all_goals try ((first | refine awpG_splitN (fun h => ?_) (fun h => ?_) | refine awpG_split (fun h => ?_) (fun h => ?_)) <;> simp only [h, emitF, markOf, EM, RR, seval])
          all_goals try (refine awpC_pure' (hp1 hfew hr) ?_; simp only [emitF, markOf, EM, RR, seval])
          all_goals try (refine awpC_pure' (hp2 hfew hr) ?_; simp only [emitF, markOf, EM, RR, seval])
          all_goals
            refine hK _ _ ?_; clear hK K
            refine awp_ret ?_; simp only [bodyQ, aresult, ares, RR, seval]
            refine Gives.pure ?_
            first | rfl | simp
end Go.Proofs.YtgcncdjnipfolaaDoor
