/- Chapter 18: MeaningRuns. -/
import Derived.Test.YtlokndnkpleegaaMj2
import Derived.Test.YtlokndnkpleegaaMz
import Derived.Test.YtlokndnkpleegaaMbk
import Derived.Test.YtlokndnkpleegaaMst
set_option linter.unusedSimpArgs false
set_option linter.unusedVariables false
set_option maxRecDepth 10000
namespace Go.Proofs.Ytlokndnkpleegaa
open Go.Al
set_option maxHeartbeats 4000000 in
theorem MeaningRuns_con (p : Pg) (hp : Bulk p) (inp : Str) (fu : Int) (hfu : i64R fu) : PCon env 3 [p.av, .str inp, .int .i64 fu] (.bool true) := by
  have hsm := small_con p hp inp
  have hsf := fun h => small_few hp (inp := inp) h
  have hav : p.av = .agg p.row := rfl
  have hrow : p.row = [.isl 1 (p.vars.map strRow), .isl 2 (p.arrs.map Ar.row), .isl 5 (p.funs.map Fu.row)] := rfl
  by_cases z : 300 < fu
  · rw [hav, hrow] at *
    refine con_of 28 [.tmp 6] Try.func3 rfl rfl rfl rfl ?_
    refine awp_seq_k fun K hK => ?_
    refine awp_region rfl ?_
    simp only [z, RR, seval]
    refine awpN_intro fun b3 hn3 => ?_
    simp only [z, RR, seval]
    refine hK _ _ ?_; clear hK K
    refine awp_seq ?_
    refine awp_seq_k fun K hK => ?_
    refine awp_region rfl ?_
    simp only [z, RR, seval]
    all_goals try ((first | refine awpG_splitN (fun h => ?_) (fun h => ?_) | refine awpG_split (fun h => ?_) (fun h => ?_)) <;> simp only [h, z, RR, seval])
    all_goals try (refine awpC_pure' (hsm) ?_; simp only [z, RR, seval])
    all_goals
      refine hK _ _ ?_; clear hK K
      refine awp_if true rfl (fun _ => ?_) (fun hc => by cases hc)
      refine awp_seq_k fun K hK => ?_
      refine awp_region rfl ?_
      simp only [z, RR, seval]
      refine awpC_pure' (awake_con) ?_
      simp only [z, RR, seval]
      refine hK _ _ ?_; clear hK K
      refine awp_ret ?_; simp only [bodyQ, aresult, ares, z, RR, seval]
      refine Gives.pure ?_
      rfl
  cases hs : smallB p inp with
  | false =>
    rw [hs] at hsm
    rw [hav, hrow] at *
    refine con_of 28 [.tmp 6] Try.func3 rfl rfl rfl rfl ?_
    refine awp_seq_k fun K hK => ?_
    refine awp_region rfl ?_
    simp only [z, RR, seval]
    refine awpN_intro fun b3 hn3 => ?_
    simp only [z, RR, seval]
    refine hK _ _ ?_; clear hK K
    refine awp_seq ?_
    refine awp_seq_k fun K hK => ?_
    refine awp_region rfl ?_
    simp only [z, RR, seval]
    all_goals try ((first | refine awpG_splitN (fun h => ?_) (fun h => ?_) | refine awpG_split (fun h => ?_) (fun h => ?_)) <;> simp only [h, z, RR, seval])
    all_goals try (refine awpC_pure' (hsm) ?_; simp only [z, RR, seval])
    all_goals
      refine hK _ _ ?_; clear hK K
      refine awp_if true rfl (fun _ => ?_) (fun hc => by cases hc)
      refine awp_seq_k fun K hK => ?_
      refine awp_region rfl ?_
      simp only [z, RR, seval]
      refine awpC_pure' (awake_con) ?_
      simp only [z, RR, seval]
      refine hK _ _ ?_; clear hK K
      refine awp_ret ?_; simp only [bodyQ, aresult, ares, z, RR, seval]
      refine Gives.pure ?_
      rfl
  | true =>
    rw [hs] at hsm
    obtain ⟨hf, h0, hin⟩ := hsf hs
    have hok := sound_ok hf h0
    obtain ⟨k1, ⟨x1, o1, t1⟩, r1⟩ := sound_run h0 inp fu
    have c1 := Run_con p hok inp (by omega) fu hfu r1
    have c2 := JRun_con p hok (fun j g hg u hu => sound_uses hf h0 j g hg u hu) (sound_last h0) inp (by omega) fu hfu r1
    clear r1 hok hf h0 hsf
    rw [hav, hrow] at *
    simp only [resV] at c1 c2
    refine con_of 28 [.tmp 6] Try.func3 rfl rfl rfl rfl ?_
    refine awp_seq_k fun K hK => ?_
    refine awp_region rfl ?_
    simp only [z, RR, seval]
    refine awpN_intro fun b3 hn3 => ?_
    simp only [z, RR, seval]
    refine hK _ _ ?_; clear hK K
    refine awp_seq ?_
    refine awp_seq_k fun K hK => ?_
    refine awp_region rfl ?_
    simp only [z, RR, seval]
    all_goals try ((first | refine awpG_splitN (fun h => ?_) (fun h => ?_) | refine awpG_split (fun h => ?_) (fun h => ?_)) <;> simp only [h, z, RR, seval])
    all_goals try (refine awpC_pure' (hsm) ?_; simp only [z, RR, seval])
    all_goals
      refine hK _ _ ?_; clear hK K
      refine awp_if false rfl (fun hc => by cases hc) (fun _ => ?_)
      refine awp_skip ?_; try simp only [RR]
      refine awp_seq_k fun K hK => ?_
      refine awp_region_draw2 (fun x => x ≠ b3) [(0, 1), (1, 3), (2, 1), (3, 3), (4, 3), (6, 0), (7, 3), (8, 3), (5, 1), (9, 1), (10, 3), (11, 3), (12, 3)] [] draws (by kernel_rfl) rfl rfl ?_
      simp only [emitF, markOf, touch_mp, touch_imp, touch_nmp, ne_eq, not_true_eq_false, and_false, false_and, not_false_eq_true, z, acells, Option.map_some, decide_true, Bool.and_self, Bool.and_true, RR, seval]
      all_goals try (refine awpC_pure' (awake_con) ?_; simp only [emitF, markOf, touch_mp, touch_imp, touch_nmp, ne_eq, not_true_eq_false, and_false, false_and, not_false_eq_true, z, acells, Option.map_some, decide_true, Bool.and_self, Bool.and_true, RR, seval])
      all_goals try ((first | refine awpG_splitN (fun h => ?_) (fun h => ?_) | refine awpG_split (fun h => ?_) (fun h => ?_)) <;> simp only [h, emitF, markOf, touch_mp, touch_imp, touch_nmp, ne_eq, not_true_eq_false, and_false, false_and, not_false_eq_true, z, acells, Option.map_some, decide_true, Bool.and_self, Bool.and_true, RR, seval])
      all_goals try (refine awpC_pure' (c1) ?_; simp only [emitF, markOf, touch_mp, touch_imp, touch_nmp, ne_eq, not_true_eq_false, and_false, false_and, not_false_eq_true, z, acells, Option.map_some, decide_true, Bool.and_self, Bool.and_true, RR, seval])
      all_goals try (refine awpC_pure' (c2) ?_; simp only [emitF, markOf, touch_mp, touch_imp, touch_nmp, ne_eq, not_true_eq_false, and_false, false_and, not_false_eq_true, z, acells, Option.map_some, decide_true, Bool.and_self, Bool.and_true, RR, seval])
      all_goals
        refine hK _ _ ?_; clear hK K
        refine awp_ret ?_; simp only [bodyQ, aresult, ares, z, acells, Option.map_some, decide_true, Bool.and_self, Bool.and_true, RR, seval]
        refine Gives.pure ?_
        rfl
end Go.Proofs.Ytlokndnkpleegaa
