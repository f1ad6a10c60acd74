/- SyntaxApart: the law's contract. -/
import Derived.Test.YtgcncdjnipfolaaDoorGFw
import Derived.Test.YtgcncdjnipfolaaDoorBms
set_option linter.unusedSimpArgs false
set_option linter.unusedVariables false
set_option maxRecDepth 10000
namespace Go.Proofs.YtgcncdjnipfolaaDoor
open Go.Al
theorem apart {p q : Pg} (hp : p.ok) (hq : q.ok) (rp : rightP p = true) (rq : rightP q = true) (h : prP p = prP q) : p = q := by
  have h1 := rd_prog (rp_of hp rp) [] 0
  have h2 := rd_prog (rp_of hq rq) [] 0
  rw [h] at h1
  have h3 : (Except.ok (tokP p) : Except (Nat × Int) (List Tok)) = .ok (tokP q) := by
    have e1 : pre (tokP p) (zz (lexH [] 0 (0 + (prP q).length))) = Except.ok (tokP p ++ []) := rfl
    have e2 : pre (tokP q) (zz (lexH [] 0 (0 + (prP q).length))) = Except.ok (tokP q ++ []) := rfl
    rw [e1] at h1
    rw [e2] at h2
    rw [h1, List.append_nil, List.append_nil] at h2
    exact h2
  injection h3 with h3
  have p1 := prog_drop (rp_of hp rp)
  have p2 := prog_drop (rp_of hq rq)
  rw [h3, p2] at p1
  injection p1 with p1
  exact p1.symm
theorem SyntaxApart_con (p : Pg) (hp : p.ok) (q : Pg) (hq : q.ok) : PCon env 7 [p.av, q.av] (.bool true) := by
  have hF := Few_con p hp 200 (by omega) (by omega)
  have hG := Few_con q hq 200 (by omega) (by omega)
  have r1 := pRight_con p hp
  have r2 := pRight_con q hq
  have s1 := pSame_con p q hp hq
  have p1 := fun h r => (Fw.of hp (m := 200) (by omega) h).pPrint r
  have p2 := fun h r => (Fw.of hq (m := 200) (by omega) h).pPrint r
  have he : rightP p = true → rightP q = true → decide (prP p = prP q) = eqB p q := fun h1 h2 => by
    by_cases h : p = q
    · subst h; rw [eqB_self]; exact decide_eq_true rfl
    · rw [eqB_false h]; exact decide_eq_false fun e => h (apart hp hq h1 h2 e)
  generalize eqB p q = res at *
  generalize prP p = t1 at *
  generalize prP q = t2 at *
  generalize rightP p = rg1 at *
  generalize rightP q = rg2 at *
  generalize fewB p 200 = fc1 at *
  generalize fewB q 200 = fc2 at *
  simp only [Pg.av, Pg.row] at *
  refine con_of 34 [.tmp 4] Tryd.func7 rfl rfl rfl rfl ?_
  refine awp_seq_k fun K hK => ?_
  refine awp_region rfl ?_
  simp only [RR, seval]
  refine awpN_intro fun b2 hn2 => ?_
  simp only [RR, seval]
  refine awpN_intro fun b3 hn3 => ?_
  have nb3_b2 : b3 ≠ b2 := fun e => by rw [e] at hn3; simp only [RR, seval, reduceCtorEq] at hn3
  have nb2_b3 : b2 ≠ b3 := fun e => nb3_b2 e.symm
  simp only [nb3_b2, nb2_b3, RR, seval]
  refine hK _ _ ?_; clear hK K
  refine awp_seq ?_
  refine awp_seq_k fun K hK => ?_
  refine awp_region rfl ?_
  simp only [nb3_b2, nb2_b3, RR, seval]
  refine awpC_pure' (awake_con) ?_
  simp only [nb3_b2, nb2_b3, RR, seval]
  refine hK _ _ ?_; clear hK K
  refine awp_if _ rfl (fun hc1 => ?_) (fun hc1 => ?_)
  · simp at hc1
  · refine awp_skip ?_; try simp only [RR]
    refine awp_seq ?_
    refine awp_seq_k fun K hK => ?_
    refine awp_region rfl ?_
    simp only [nb3_b2, nb2_b3, RR, seval]
    all_goals try (refine awpC_pure' (hF) ?_; simp only [nb3_b2, nb2_b3, RR, seval])
    all_goals try ((first | refine awpG_splitN (fun h => ?_) (fun h => ?_) | refine awpG_split (fun h => ?_) (fun h => ?_)) <;> simp only [h, nb3_b2, nb2_b3, RR, seval])
    all_goals try (refine awpC_pure' (hG) ?_; simp only [nb3_b2, nb2_b3, RR, seval])
    all_goals try ((first | refine awpG_splitN (fun h => ?_) (fun h => ?_) | refine awpG_split (fun h => ?_) (fun h => ?_)) <;> simp only [h, nb3_b2, nb2_b3, RR, seval])
    all_goals try (refine awpC_pure' (r1) ?_; simp only [nb3_b2, nb2_b3, RR, seval])
    all_goals try ((first | refine awpG_splitN (fun h => ?_) (fun h => ?_) | refine awpG_split (fun h => ?_) (fun h => ?_)) <;> simp only [h, nb3_b2, nb2_b3, RR, seval])
    all_goals try (refine awpC_pure' (r2) ?_; simp only [nb3_b2, nb2_b3, RR, seval])
    all_goals
      refine hK _ _ ?_; clear hK K
      refine awp_if _ rfl (fun hc3 => ?_) (fun hc3 => ?_)
      · try (cases hc3; done)
        all_goals
          refine awp_seq_k fun K hK => ?_
          refine awp_region rfl ?_
          simp only [RR, seval]
          refine hK _ _ ?_; clear hK K
          refine awp_ret ?_; simp only [bodyQ, aresult, ares, RR, seval]
          refine Gives.pure ?_
          rfl
      · try (cases hc3; done)
        all_goals
          have e1 : fc1 = true := by simp_all
          have e2 : fc2 = true := by simp_all
          have e3 : rg1 = true := by simp_all
          have e4 : rg2 = true := by simp_all
          have q1 := p1 e1 e3
          have q2 := p2 e2 e4
          have q3 := he e3 e4
          refine awp_skip ?_; try simp only [RR]
          refine awp_seq_k fun K hK => ?_
          refine awp_region_draw2 (fun x => x ≠ b2 ∧ x ≠ b3) [(0, 1), (2, 0), (5, 0), (6, 0), (1, 1), (3, 1), (4, 3), (7, 1), (8, 3), (9, 3)] [] draws (by kernel_rfl) rfl rfl ?_
          simp only [emitF, markOf, EM, nb3_b2, nb2_b3, q3, RR, seval]
          refine awpC_pure' (q1) ?_
          simp only [emitF, markOf, EM, nb3_b2, nb2_b3, q3, RR, seval]
          refine awpC_pure' (q2) ?_
          simp only [emitF, markOf, EM, nb3_b2, nb2_b3, q3, RR, seval]
          refine awpC_pure' (s1) ?_
          simp only [emitF, markOf, EM, nb3_b2, nb2_b3, q3, RR, seval]
          refine hK _ _ ?_; clear hK K
          refine awp_ret ?_; simp only [bodyQ, aresult, ares, q3, RR, seval]
          refine Gives.pure ?_
          first | rfl | simp
end Go.Proofs.YtgcncdjnipfolaaDoor
