/- Chapter 19, the judge's: may a core be? Words, callees. -/
import Derived.Test.YtnfbbjhdflhmjaaDoorCx
import Derived.Test.YtnfbbjhdflhmjaaDoorGLd
set_option linter.unusedSimpArgs false
set_option linter.unusedVariables false
set_option maxRecDepth 10000
namespace Go.Proofs.YtnfbbjhdflhmjaaDoor
open Go.Al
theorem within_con (w : Int) (R : List (List AV)) (a n : Int) (hw : i64R w) : PCon env 27 [.agg [.int .i64 w, .isl 5 R], .int .i64 a, .int .i64 n] (.bool (withinC w a n)) := by
 unfold withinC
 have hw1 := hw.1
 have hw2 := hw.2
 by_cases h1 : 0 ≤ a
 rotate_left
 ·have e1 : decide (0 ≤ a) = false := decide_eq_false h1
  rw [e1]
  refine con_of 27 [.tmp 6] Tryd.func27 rfl rfl rfl rfl ?_
  refine awp_seq_k fun K hK => ?_
  refine awp_region rfl ?_
  simp only [RR, seval]
  refine awpN_intro fun b3 hn3 => ?_
  simp only [RR, seval]
  refine hK _ _ ?_; clear hK K
  refine awp_seq_k fun K hK => ?_
  refine awp_region rfl ?_
  simp only [h1, RR, seval]
  refine hK _ _ ?_; clear hK K
  refine awp_ret ?_; simp only [bodyQ, aresult, ares, RR, seval]
  refine Gives.pure ?_
  rfl
 by_cases h2 : 0 ≤ n
 rotate_left
 ·have e1 : decide (0 ≤ n) = false := decide_eq_false h2
  rw [e1, Bool.and_false]
  refine con_of 27 [.tmp 6] Tryd.func27 rfl rfl rfl rfl ?_
  refine awp_seq_k fun K hK => ?_
  refine awp_region rfl ?_
  simp only [RR, seval]
  refine awpN_intro fun b3 hn3 => ?_
  simp only [RR, seval]
  refine hK _ _ ?_; clear hK K
  refine awp_seq_k fun K hK => ?_
  refine awp_region rfl ?_
  simp only [h1, h2, RR, seval]
  refine hK _ _ ?_; clear hK K
  refine awp_ret ?_; simp only [bodyQ, aresult, ares, RR, seval]
  refine Gives.pure ?_
  rfl
 by_cases h3 : a ≤ w
 rotate_left
 ·have e1 : decide (a ≤ w) = false := decide_eq_false h3
  rw [e1, Bool.and_false]
  refine con_of 27 [.tmp 6] Tryd.func27 rfl rfl rfl rfl ?_
  refine awp_seq_k fun K hK => ?_
  refine awp_region rfl ?_
  simp only [RR, seval]
  refine awpN_intro fun b3 hn3 => ?_
  simp only [RR, seval]
  refine hK _ _ ?_; clear hK K
  refine awp_seq_k fun K hK => ?_
  refine awp_region rfl ?_
  simp only [h1, h2, h3, RR, seval]
  refine hK _ _ ?_; clear hK K
  refine awp_ret ?_; simp only [bodyQ, aresult, ares, RR, seval]
  refine Gives.pure ?_
  rfl
 ·have e1 : IntKind.wrap .i64 (w - a) = w - a := by rw [IntWalk.i64_in _ (by omega)]
  rw [decide_eq_true h1, decide_eq_true h2, decide_eq_true h3]
  simp only [Bool.true_and]
  refine con_of 27 [.tmp 6] Tryd.func27 rfl rfl rfl rfl ?_
  refine awp_seq_k fun K hK => ?_
  refine awp_region rfl ?_
  simp only [RR, seval]
  refine awpN_intro fun b3 hn3 => ?_
  simp only [RR, seval]
  refine hK _ _ ?_; clear hK K
  refine awp_seq_k fun K hK => ?_
  refine awp_region rfl ?_
  simp only [h1, h2, h3, e1, RR, seval]
  refine hK _ _ ?_; clear hK K
  refine awp_ret ?_; simp only [bodyQ, aresult, ares, RR, seval]
  refine Gives.pure ?_
  rfl
theorem callee_con (w : Int) (cs : List CF) (f : Nat) (hf : f ≤ cs.length) (g : Int) (n : Nat) (b : Bool) : PCon env 41 [.agg [.int .i64 w, .isl 5 (cs.map CF.row)], .int .i64 (f : Nat), .int .i64 g, .int .i64 (n : Nat), .bool b] (.bool (calleeC (cs.take f) g n b)) := by
 unfold calleeC
 by_cases h1 : 0 ≤ g
 rotate_left
 ·rw [decide_eq_false h1, Bool.false_and]
  refine con_of 38 [.tmp 10] Tryd.func41 rfl rfl rfl rfl ?_
  refine awp_seq_k fun K hK => ?_
  refine awp_region rfl ?_
  simp only [RR, seval]
  refine awpN_intro fun b5 hn5 => ?_
  simp only [RR, seval]
  refine hK _ _ ?_; clear hK K
  refine awp_seq_k fun K hK => ?_
  refine awp_region rfl ?_
  simp only [h1, RR, seval]
  refine hK _ _ ?_; clear hK K
  refine awp_ret ?_; simp only [bodyQ, aresult, ares, RR, seval]
  refine Gives.pure ?_
  rfl
 rw [decide_eq_true h1, Bool.true_and]
 by_cases h2 : g < (f : Int)
 rotate_left
 ·rw [List.getElem?_eq_none (by rw [List.length_take]; omega)]
  refine con_of 38 [.tmp 10] Tryd.func41 rfl rfl rfl rfl ?_
  refine awp_seq_k fun K hK => ?_
  refine awp_region rfl ?_
  simp only [RR, seval]
  refine awpN_intro fun b5 hn5 => ?_
  simp only [RR, seval]
  refine hK _ _ ?_; clear hK K
  refine awp_seq_k fun K hK => ?_
  refine awp_region rfl ?_
  simp only [h1, h2, RR, seval]
  refine hK _ _ ?_; clear hK K
  refine awp_ret ?_; simp only [bodyQ, aresult, ares, RR, seval]
  refine Gives.pure ?_
  rfl
 have hlt : g.toNat < cs.length := by omega
 have hg0 := List.getElem?_eq_getElem hlt
 have ht : (cs.take f)[g.toNat]? = some cs[g.toNat] := by rw [List.getElem?_take, if_pos (by omega), hg0]
 rw [ht]
 have hg := getCF hg0
 generalize cs[g.toNat] = F at hg0 hg
 have h3 : g < (cs.length : Int) := by omega
 generalize hq : decide (F.word = b) = q
 cases q
 ·skip
  refine con_of 38 [.tmp 10] Tryd.func41 rfl rfl rfl rfl ?_
  refine awp_seq_k fun K hK => ?_
  refine awp_region rfl ?_
  simp only [hq, RR, seval]
  refine awpN_intro fun b5 hn5 => ?_
  simp only [RR, seval]
  refine hK _ _ ?_; clear hK K
  refine awp_seq_k fun K hK => ?_
  refine awp_region rfl ?_
  simp only [h1, h2, hg, hq, RR, seval]
  refine hK _ _ ?_; clear hK K
  refine awp_ret ?_; simp only [bodyQ, aresult, ares, hq, RR, seval]
  refine Gives.pure ?_
  rfl
 ·skip
  refine con_of 38 [.tmp 10] Tryd.func41 rfl rfl rfl rfl ?_
  refine awp_seq_k fun K hK => ?_
  refine awp_region rfl ?_
  simp only [hq, RR, seval]
  refine awpN_intro fun b5 hn5 => ?_
  simp only [RR, seval]
  refine hK _ _ ?_; clear hK K
  refine awp_seq_k fun K hK => ?_
  refine awp_region rfl ?_
  simp only [h1, h2, hg, hq, RR, seval]
  refine hK _ _ ?_; clear hK K
  refine awp_ret ?_; simp only [bodyQ, aresult, ares, hq, RR, seval]
  refine Gives.pure ?_
  rfl
end Go.Proofs.YtnfbbjhdflhmjaaDoor
