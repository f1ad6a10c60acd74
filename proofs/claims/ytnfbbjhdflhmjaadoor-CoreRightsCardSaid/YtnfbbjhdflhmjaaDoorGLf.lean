/- Chapter 19: alive. -/
import Derived.Test.YtnfbbjhdflhmjaaDoorGLe
import Derived.Test.YtnfbbjhdflhmjaaDoorCx
set_option linter.unusedSimpArgs false
set_option linter.unusedVariables false
set_option maxRecDepth 10000
namespace Go.Proofs.YtnfbbjhdflhmjaaDoor
open Go.Al
theorem Rl {c : Co} (h : Te c) : tW (qQ c [] 0) c.words.toNat :=
 ⟨by simp [qQ], by simp [qQ], by have := h.words; omega, by rw [Int.toNat_of_nonneg h.words.1]; exact h.funs, fun f hf => (h.ok.funs f hf).body⟩
theorem Ly (k o n a z : Int) (l : List CE) (hk : cX k) (ho : cX o) (hn : cJ n) (ha : cX a) (hz : cX z) (hl : lS l) : (CE.mk k o n a z l).ok := .mk k o n a z l hk ho hn ha hz hl.fit hl.all
theorem Sl : lS [] := ⟨by simp [cY], by simp⟩
theorem Lz {e : CE} (h : e.ok) : lS [e] := ⟨by simp [cY], by simpa using h⟩
theorem Sh (k a z : Int) (l : List CE) (hk : cX k) (ha : cX a) (hz : cX z) (hl : lS l) : (CS.mk k a z l [] []).ok := .mk k a z l [] [] hk ha hz hl (by simp [cY]) (by simp) (by simp [cY]) (by simp)
theorem Zc : xC.ok := by
 have e1 := Ly 2 0 0 1 0 [] (by simp [cX]) (by simp [cX]) (by simp [cJ]) (by simp [cX]) (by simp [cX]) Sl
 have e2 := Ly 2 0 0 0 0 [] (by simp [cX]) (by simp [cX]) (by simp [cJ]) (by simp [cX]) (by simp [cX]) Sl
 have e3 := Ly 1 0 65 0 0 [] (by simp [cX]) (by simp [cX]) (by simp [cJ]) (by simp [cX]) (by simp [cX]) Sl
 have e4 := Ly 4 0 0 0 0 _ (by simp [cX]) (by simp [cX]) (by simp [cJ]) (by simp [cX]) (by simp [cX]) (Lz e3)
 have s7 := Sh 7 0 0 _ (by simp [cX]) (by simp [cX]) (by simp [cX]) (Lz e1)
 have s1 := Sh 1 0 0 _ (by simp [cX]) (by simp [cX]) (by simp [cX]) (Lz e4)
 have s3 := Sh 3 0 0 _ (by simp [cX]) (by simp [cX]) (by simp [cX]) (Lz e2)
 have f1 : Tg.ok := ⟨by simp [cX, Tg], by simp [cX, Tg], by simp [cX, Tg], ⟨by simp [cY, Tg], by simpa [Tg] using s7⟩⟩
 have f2 : Tf.ok := ⟨by simp [cX, Tf], by simp [cX, Tf], by simp [cX, Tf], ⟨by simp [cY, Tf], by simpa [Tf] using ⟨s1, s3⟩⟩⟩
 exact ⟨by simp [cX, xC], by simp [cY, xC], by simpa [xC] using ⟨f1, f2⟩⟩
theorem Pe : iA xC = true := by
 simp only [iA, xC, Tg, Tf, iI, cR, fN, eF, gK]
 decide +kernel
theorem Zd : Te xC := Wt Zc Pe
set_option maxHeartbeats 2000000 in
theorem eL : dG cO 7 [] (.bool true) := by
 have e1 := Mz
 have e2 := Yd xP C0
 rw [J7] at e2
 have e3 := Ml xC (by simp [xC]) (Rl Zd) (by simp [xC]) (by simp [xC]) [] (by simp) 9 (by simp [cX]) Zq
 have e4 := pS 1 1 [65] [65] 1 1
 have e5 := Ay xC (by rw [Wm]; decide) (by simp [xC])
 rw [Wm] at e5
 have hr : By (1, [65], 1) (1, [65], 1) = true := by decide
 rw [hr] at e4
 obtain ⟨B1, B2, hB⟩ : ∃ B1 B2, xC.av = .agg [.int .i64 2, .isl 5 [[.int .i64 1, .int .i64 1, .int .i64 1, .bool true, B1], [.int .i64 0, .int .i64 0, .int .i64 2, .bool false, B2]]] := ⟨_, _, rfl⟩
 have hv : vA 1 [65] 1 = .agg [.int .i64 1, .str [65], .int .i64 1] := rfl
 have hob : one B1 = true ∧ one B2 = true := by
  have h1 : xC.av = .agg [.int .i64 2, .isl 5 [[.int .i64 1, .int .i64 1, .int .i64 1, .bool true, .isl 6 (Tg.body.map CS.row)], [.int .i64 0, .int .i64 0, .int .i64 2, .bool false, .isl 6 (Tf.body.map CS.row)]]] := rfl
  rw [h1] at hB
  simp only [AV.agg.injEq, List.cons.injEq, AV.isl.injEq, true_and, and_true] at hB
  obtain ⟨h2, h3⟩ := hB
  subst h2; subst h3
  exact ⟨rfl, rfl⟩
 rw [hv] at e3
 simp only [hB] at e2 e3 e5
 generalize xP.av = pv at *
 refine bD 48 [.tmp 0] Tryd.func7 rfl rfl rfl rfl ?_
 refine aB fun K hK => ?_
 refine aA rfl ?_
 simp only [RR, seval]
 refine hK _ _ ?_; clear hK K
 refine aB fun K hK => ?_
 refine aA rfl ?_
 simp only [RR, seval]
 refine aO (e1) ?_
 simp only [RR, seval]
 refine aO (e2) ?_
 simp only [RR, seval]
 refine aK fun b1 hn1 => ?_
 simp only [RR, seval]
 refine hK _ _ ?_; clear hK K
 refine aB fun K hK => ?_
 refine aA rfl ?_
 simp only [RR, seval]
 refine aO (e3) ?_
 simp only [RR, seval]
 refine aO (e4) ?_
 simp only [RR, seval]
 refine aO (e5) ?_
 simp only [RR, seval]
 refine hK _ _ ?_; clear hK K
 refine aP ?_; simp only [aV, aM, bE, RR, seval]
 refine aU.pure ?_
 rfl
end Go.Proofs.YtnfbbjhdflhmjaaDoor
