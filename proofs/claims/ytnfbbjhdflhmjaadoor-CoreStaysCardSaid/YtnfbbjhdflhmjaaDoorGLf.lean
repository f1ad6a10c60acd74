/- Chapter 19: alive. -/
import Derived.Test.YtnfbbjhdflhmjaaDoorGLe
import Derived.Test.YtnfbbjhdflhmjaaDoorCx
set_option linter.unusedSimpArgs false
set_option linter.unusedVariables false
set_option maxRecDepth 10000
namespace Go.Proofs.YtnfbbjhdflhmjaaDoor
open Go.Al
theorem kx_of {c : Co} (h : CoOk c) : KxOk (cxC c [] 0) c.words.toNat :=
 ⟨by simp [cxC], by simp [cxC], by have := h.words; omega, by rw [Int.toNat_of_nonneg h.words.1]; exact h.funs, fun f hf => (h.ok.funs f hf).body⟩
theorem ce_ok (k o n a z : Int) (l : List CE) (hk : i64R k) (ho : i64R o) (hn : u32R n) (ha : i64R a) (hz : i64R z) (hl : okCE l) : (CE.mk k o n a z l).ok := .mk k o n a z l hk ho hn ha hz hl.fit hl.all
theorem c_nil : okCE [] := ⟨by simp [fitL], by simp⟩
theorem c_one {e : CE} (h : e.ok) : okCE [e] := ⟨by simp [fitL], by simpa using h⟩
theorem cs_ok (k a z : Int) (l : List CE) (hk : i64R k) (ha : i64R a) (hz : i64R z) (hl : okCE l) : (CS.mk k a z l [] []).ok := .mk k a z l [] [] hk ha hz hl (by simp [fitL]) (by simp) (by simp [fitL]) (by simp)
theorem xC_ok : xC.ok := by
 have e1 := ce_ok 2 0 0 1 0 [] (by simp [i64R]) (by simp [i64R]) (by simp [u32R]) (by simp [i64R]) (by simp [i64R]) c_nil
 have e2 := ce_ok 2 0 0 0 0 [] (by simp [i64R]) (by simp [i64R]) (by simp [u32R]) (by simp [i64R]) (by simp [i64R]) c_nil
 have e3 := ce_ok 1 0 65 0 0 [] (by simp [i64R]) (by simp [i64R]) (by simp [u32R]) (by simp [i64R]) (by simp [i64R]) c_nil
 have e4 := ce_ok 4 0 0 0 0 _ (by simp [i64R]) (by simp [i64R]) (by simp [u32R]) (by simp [i64R]) (by simp [i64R]) (c_one e3)
 have s7 := cs_ok 7 0 0 _ (by simp [i64R]) (by simp [i64R]) (by simp [i64R]) (c_one e1)
 have s1 := cs_ok 1 0 0 _ (by simp [i64R]) (by simp [i64R]) (by simp [i64R]) (c_one e4)
 have s3 := cs_ok 3 0 0 _ (by simp [i64R]) (by simp [i64R]) (by simp [i64R]) (c_one e2)
 have f1 : xC1.ok := ⟨by simp [i64R, xC1], by simp [i64R, xC1], by simp [i64R, xC1], ⟨by simp [fitL, xC1], by simpa [xC1] using s7⟩⟩
 have f2 : xC2.ok := ⟨by simp [i64R, xC2], by simp [i64R, xC2], by simp [i64R, xC2], ⟨by simp [fitL, xC2], by simpa [xC2] using ⟨s1, s3⟩⟩⟩
 exact ⟨by simp [i64R, xC], by simp [fitL, xC], by simpa [xC] using ⟨f1, f2⟩⟩
theorem xC_right : rightC xC = true := by
 simp only [rightC, xC, xC1, xC2, bodiesC, rightCSs, rightCS, rightCEs, rightCE]
 decide +kernel
theorem xC_co : CoOk xC := co_ok xC_ok xC_right
set_option maxHeartbeats 2000000 in
theorem alive_con : PCon env 7 [] (.bool true) := by
 have e1 := plain_con
 have e2 := Of_con xP few_x
 rw [of_x] at e2
 have e3 := Run_con xC (by simp [xC]) (kx_of xC_co) (by simp [xC]) (by simp [xC]) [] (by simp) 9 (by simp [i64R]) run_x
 have e4 := rSame_con 1 1 [65] [65] 1 1
 have e5 := cSize_con xC (by rw [siz_x]; decide) (by simp [xC])
 rw [siz_x] at e5
 have hr : resB (1, [65], 1) (1, [65], 1) = true := by decide
 rw [hr] at e4
 obtain ⟨B1, B2, hB⟩ : ∃ B1 B2, xC.av = .agg [.int .i64 2, .isl 5 [[.int .i64 1, .int .i64 1, .int .i64 1, .bool true, B1], [.int .i64 0, .int .i64 0, .int .i64 2, .bool false, B2]]] := ⟨_, _, rfl⟩
 have hv : resV 1 [65] 1 = .agg [.int .i64 1, .str [65], .int .i64 1] := rfl
 have hob : one B1 = true ∧ one B2 = true := by
  have h1 : xC.av = .agg [.int .i64 2, .isl 5 [[.int .i64 1, .int .i64 1, .int .i64 1, .bool true, .isl 6 (xC1.body.map CS.row)], [.int .i64 0, .int .i64 0, .int .i64 2, .bool false, .isl 6 (xC2.body.map CS.row)]]] := rfl
  rw [h1] at hB
  simp only [AV.agg.injEq, List.cons.injEq, AV.isl.injEq, true_and, and_true] at hB
  obtain ⟨h2, h3⟩ := hB
  subst h2; subst h3
  exact ⟨rfl, rfl⟩
 rw [hv] at e3
 simp only [hB] at e2 e3 e5
 generalize xP.av = pv at *
 refine con_of 48 [.tmp 0] Tryd.func7 rfl rfl rfl rfl ?_
 refine awp_seq_k fun K hK => ?_
 refine awp_region rfl ?_
 simp only [RR, seval]
 refine hK _ _ ?_; clear hK K
 refine awp_seq_k fun K hK => ?_
 refine awp_region rfl ?_
 simp only [RR, seval]
 refine awpC_pure' (e1) ?_
 simp only [RR, seval]
 refine awpC_pure' (e2) ?_
 simp only [RR, seval]
 refine awpN_intro fun b1 hn1 => ?_
 simp only [RR, seval]
 refine hK _ _ ?_; clear hK K
 refine awp_seq_k fun K hK => ?_
 refine awp_region rfl ?_
 simp only [RR, seval]
 refine awpC_pure' (e3) ?_
 simp only [RR, seval]
 refine awpC_pure' (e4) ?_
 simp only [RR, seval]
 refine awpC_pure' (e5) ?_
 simp only [RR, seval]
 refine hK _ _ ?_; clear hK K
 refine awp_ret ?_; simp only [bodyQ, aresult, ares, RR, seval]
 refine Gives.pure ?_
 rfl
end Go.Proofs.YtnfbbjhdflhmjaaDoor
