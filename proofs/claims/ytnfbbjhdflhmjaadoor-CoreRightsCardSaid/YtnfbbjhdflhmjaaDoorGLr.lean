/- Chapter 19, the judge's: may a core be? Words, callees. -/
import Derived.Test.YtnfbbjhdflhmjaaDoorCx
import Derived.Test.YtnfbbjhdflhmjaaDoorGLd
set_option linter.unusedSimpArgs false
set_option linter.unusedVariables false
set_option maxRecDepth 10000
namespace Go.Proofs.YtnfbbjhdflhmjaaDoor
open Go.Al
theorem qX (w : Int) (R : List (List AV)) (a n : Int) (hw : cX w) : dG cO 27 [.agg [.int .i64 w, .isl 5 R], .int .i64 a, .int .i64 n] (.bool (cF w a n)) := by
 unfold cF
 have hw1 := hw.1
 have hw2 := hw.2
 by_cases h1 : 0 ≤ a
 rotate_left
 ·have e1 : decide (0 ≤ a) = false := aN h1
  rw [e1]
  refine bD 27 [.tmp 6] Tryd.func27 rfl rfl rfl rfl ?_
  refine aB fun K hK => ?_
  refine aA rfl ?_
  simp only [RR, seval]
  refine aK fun b3 hn3 => ?_
  simp only [RR, seval]
  refine hK _ _ ?_; clear hK K
  refine aB fun K hK => ?_
  refine aA rfl ?_
  simp only [h1, RR, seval]
  refine hK _ _ ?_; clear hK K
  refine aP ?_; simp only [aV, aM, bE, RR, seval]
  refine aU.pure ?_
  rfl
 by_cases h2 : 0 ≤ n
 rotate_left
 ·have e1 : decide (0 ≤ n) = false := aN h2
  rw [e1, Bool.and_false]
  refine bD 27 [.tmp 6] Tryd.func27 rfl rfl rfl rfl ?_
  refine aB fun K hK => ?_
  refine aA rfl ?_
  simp only [RR, seval]
  refine aK fun b3 hn3 => ?_
  simp only [RR, seval]
  refine hK _ _ ?_; clear hK K
  refine aB fun K hK => ?_
  refine aA rfl ?_
  simp only [h1, h2, RR, seval]
  refine hK _ _ ?_; clear hK K
  refine aP ?_; simp only [aV, aM, bE, RR, seval]
  refine aU.pure ?_
  rfl
 by_cases h3 : a ≤ w
 rotate_left
 ·have e1 : decide (a ≤ w) = false := aN h3
  rw [e1, Bool.and_false]
  refine bD 27 [.tmp 6] Tryd.func27 rfl rfl rfl rfl ?_
  refine aB fun K hK => ?_
  refine aA rfl ?_
  simp only [RR, seval]
  refine aK fun b3 hn3 => ?_
  simp only [RR, seval]
  refine hK _ _ ?_; clear hK K
  refine aB fun K hK => ?_
  refine aA rfl ?_
  simp only [h1, h2, h3, RR, seval]
  refine hK _ _ ?_; clear hK K
  refine aP ?_; simp only [aV, aM, bE, RR, seval]
  refine aU.pure ?_
  rfl
 have e1 : IntKind.wrap .i64 (w - a) = w - a := by rw [aR _ (by omega)]
 rw [bB h1, bB h2, bB h3]
 simp only [Bool.true_and]
 refine bD 27 [.tmp 6] Tryd.func27 rfl rfl rfl rfl ?_
 refine aB fun K hK => ?_
 refine aA rfl ?_
 simp only [RR, seval]
 refine aK fun b3 hn3 => ?_
 simp only [RR, seval]
 refine hK _ _ ?_; clear hK K
 refine aB fun K hK => ?_
 refine aA rfl ?_
 simp only [h1, h2, h3, e1, RR, seval]
 refine hK _ _ ?_; clear hK K
 refine aP ?_; simp only [aV, aM, bE, RR, seval]
 refine aU.pure ?_
 rfl
theorem xI (w : Int) (cs : List CF) (f : Nat) (hf : f ≤ cs.length) (g : Int) (n : Nat) (b : Bool) : dG cO 41 [.agg [.int .i64 w, .isl 5 (cs.map CF.row)], .int .i64 (f : Nat), .int .i64 g, .int .i64 (n : Nat), .bool b] (.bool (eT (cs.take f) g n b)) := by
 unfold eT
 by_cases h1 : 0 ≤ g
 rotate_left
 ·rw [aN h1, Bool.false_and]
  refine bD 38 [.tmp 10] Tryd.func41 rfl rfl rfl rfl ?_
  refine aB fun K hK => ?_
  refine aA rfl ?_
  simp only [RR, seval]
  refine aK fun b5 hn5 => ?_
  simp only [RR, seval]
  refine hK _ _ ?_; clear hK K
  refine aB fun K hK => ?_
  refine aA rfl ?_
  simp only [h1, RR, seval]
  refine hK _ _ ?_; clear hK K
  refine aP ?_; simp only [aV, aM, bE, RR, seval]
  refine aU.pure ?_
  rfl
 rw [bB h1, Bool.true_and]
 by_cases h2 : g < (f : Int)
 rotate_left
 ·rw [List.getElem?_eq_none (by rw [cC]; omega)]
  refine bD 38 [.tmp 10] Tryd.func41 rfl rfl rfl rfl ?_
  refine aB fun K hK => ?_
  refine aA rfl ?_
  simp only [RR, seval]
  refine aK fun b5 hn5 => ?_
  simp only [RR, seval]
  refine hK _ _ ?_; clear hK K
  refine aB fun K hK => ?_
  refine aA rfl ?_
  simp only [h1, h2, RR, seval]
  refine hK _ _ ?_; clear hK K
  refine aP ?_; simp only [aV, aM, bE, RR, seval]
  refine aU.pure ?_
  rfl
 have hlt : g.toNat < cs.length := by omega
 have hg0 := aH hlt
 have ht : (cs.take f)[g.toNat]? = some cs[g.toNat] := by rw [List.getElem?_take, if_pos (by omega), hg0]
 rw [ht]
 have hg := jE hg0
 generalize cs[g.toNat] = F at hg0 hg
 have h3 : g < (cs.length : Int) := by omega
 generalize hq : decide (F.word = b) = q
 cases q
 ·skip
  refine bD 38 [.tmp 10] Tryd.func41 rfl rfl rfl rfl ?_
  refine aB fun K hK => ?_
  refine aA rfl ?_
  simp only [hq, RR, seval]
  refine aK fun b5 hn5 => ?_
  simp only [RR, seval]
  refine hK _ _ ?_; clear hK K
  refine aB fun K hK => ?_
  refine aA rfl ?_
  simp only [h1, h2, hg, hq, RR, seval]
  refine hK _ _ ?_; clear hK K
  refine aP ?_; simp only [aV, aM, bE, hq, RR, seval]
  refine aU.pure ?_
  rfl
 skip
 refine bD 38 [.tmp 10] Tryd.func41 rfl rfl rfl rfl ?_
 refine aB fun K hK => ?_
 refine aA rfl ?_
 simp only [hq, RR, seval]
 refine aK fun b5 hn5 => ?_
 simp only [RR, seval]
 refine hK _ _ ?_; clear hK K
 refine aB fun K hK => ?_
 refine aA rfl ?_
 simp only [h1, h2, hg, hq, RR, seval]
 refine hK _ _ ?_; clear hK K
 refine aP ?_; simp only [aV, aM, bE, hq, RR, seval]
 refine aU.pure ?_
 rfl
end Go.Proofs.YtnfbbjhdflhmjaaDoor
