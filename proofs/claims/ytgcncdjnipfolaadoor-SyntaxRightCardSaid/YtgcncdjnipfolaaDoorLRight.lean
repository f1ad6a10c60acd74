/- SyntaxRight: the law's contract. -/
import Derived.Test.YtgcncdjnipfolaaDoorFw
set_option linter.unusedSimpArgs false
set_option linter.unusedVariables false
set_option maxRecDepth 10000
namespace Go.Proofs.YtgcncdjnipfolaaDoor
open Go.Al
theorem SyntaxRight_con (p : Pg) (hp : p.ok) : PCon env 3 [p.av] (.bool true) := by
  have hF := Few_con p hp 400 (by omega) (by omega)
  have hR := fun h => (Fw.of hp (m := 400) (by omega) h).right
  have hP := pRight_con p hp
  simp only [Pg.av, Pg.row] at *
  refine con_of 13 [.tmp 2] Tryd.func3 rfl rfl rfl rfl ?_
  refine awp_seq_k fun K hK => ?_
  refine awp_region rfl ?_
  simp only [RR, seval]
  refine awpN_intro fun b1 hn1 => ?_
  simp only [RR, seval]
  refine hK _ _ ?_; clear hK K
  refine awp_seq ?_
  refine awp_seq_k fun K hK => ?_
  refine awp_region rfl ?_
  simp only [RR, seval]
  refine awpC_pure' (awake_con) ?_
  simp only [RR, seval]
  refine hK _ _ ?_; clear hK K
  refine awp_if _ rfl (fun hc1 => ?_) (fun hc1 => ?_)
  · simp at hc1
  · refine awp_skip ?_; try simp only [RR]
    refine awp_seq ?_
    refine awp_seq_k fun K hK => ?_
    refine awp_region rfl ?_
    simp only [RR, seval]
    refine awpC_pure' (hF) ?_
    simp only [RR, seval]
    refine hK _ _ ?_; clear hK K
    refine awp_if _ rfl (fun hc3 => ?_) (fun hc3 => ?_)
    · refine awp_seq_k fun K hK => ?_
      refine awp_region rfl ?_
      simp only [RR, seval]
      refine hK _ _ ?_; clear hK K
      refine awp_ret ?_; simp only [bodyQ, aresult, ares, RR, seval]
      refine Gives.pure ?_
      rfl
    · have hfew : fewB p 400 = true := by simpa using hc3
      refine awp_skip ?_; try simp only [RR]
      refine awp_seq_k fun K hK => ?_
      refine awp_region_draw2 (fun x => x ≠ b1) [(0, 1), (2, 0), (1, 1), (3, 1), (4, 3), (5, 3)] [] draws (by kernel_rfl) rfl rfl ?_
      simp only [emitF, markOf, EM, RR, seval]
      refine awpC_pure' (hP) ?_
      simp only [emitF, markOf, EM, RR, seval]
      refine awpC_pure' (hR hfew) ?_
      simp only [emitF, markOf, EM, RR, seval]
      refine hK _ _ ?_; clear hK K
      refine awp_ret ?_; simp only [bodyQ, aresult, ares, RR, seval]
      refine Gives.pure ?_
      first | rfl | simp
end Go.Proofs.YtgcncdjnipfolaaDoor
