/- Chapter 19: the law's example; alive. -/
import Derived.Test.YtnfbbjhdflhmjaaDoorGLd
import Derived.Test.YtnfbbjhdflhmjaaDoorGKh
import Derived.Test.YtnfbbjhdflhmjaaDoorGOd
import Derived.Test.YtnfbbjhdflhmjaaDoorAl4
set_option linter.unusedSimpArgs false
set_option linter.unusedVariables false
set_option maxRecDepth 10000
namespace Go.Proofs.YtnfbbjhdflhmjaaDoor
open Go.Al
def xF : Fu := ⟨[102], [[97]], [], true, [.mk 7 [] [.mk 2 0 0 [97] []] [] []]⟩
def xM : Fu := ⟨[109, 97, 105, 110], [], [], false, [.mk 1 [120] [.mk 4 0 0 [102] [.mk 1 0 65 [] []]] [] [], .mk 3 [] [.mk 2 0 0 [120] []] [] []]⟩
def xP : Pg := ⟨[[120]], [], [xF, xM]⟩
def Tg : CF := ⟨1, 1, 1, true, [.mk 7 0 0 [.mk 2 0 0 1 0 []] [] []]⟩
def Tf : CF := ⟨0, 0, 2, false, [.mk 1 0 0 [.mk 4 0 0 0 0 [.mk 1 0 65 0 0 []]] [] [], .mk 3 0 0 [.mk 2 0 0 0 0 []] [] []]⟩
def xC : Co := ⟨2, [Tg, Tf]⟩
theorem Tw (k o n : Int) (s : dL) (l : List Ex) (hk : cX k) (ho : cX o) (hn : cJ n) (hs : cY s) (hl : Il l) : (Ex.mk k o n s l).ok := .mk k o n s l hk ho hn hs hl.fit hl.all
theorem Rk : Il [] := ⟨by simp [cY], by simp⟩
theorem Lk {e : Ex} (h : e.ok) : Il [e] := ⟨by simp [cY], by simpa using h⟩
theorem Ky : Nc [] := ⟨by simp [cY], by simp⟩
theorem Xk (k : Int) (s : dL) (l : List Ex) (hk : cX k) (hs : cY s) (hl : Il l) : (Sm.mk k s l [] []).ok := .mk k s l [] [] hk hs hl Ky.fit Ky.all Ky.fit Ky.all
theorem C0 : xP.few := by
 have x97 := Tw 2 0 0 [97] [] (by simp [cX]) (by simp [cX]) (by simp [cJ]) (by simp [cY]) Rk
 have x120 := Tw 2 0 0 [120] [] (by simp [cX]) (by simp [cX]) (by simp [cJ]) (by simp [cY]) Rk
 have x65 := Tw 1 0 65 [] [] (by simp [cX]) (by simp [cX]) (by simp [cJ]) (by simp [cY]) Rk
 have xc := Tw 4 0 0 [102] [.mk 1 0 65 [] []] (by simp [cX]) (by simp [cX]) (by simp [cJ]) (by simp [cY]) (Lk x65)
 have s7 := Xk 7 [] _ (by simp [cX]) (by simp [cY]) (Lk x97)
 have s1 := Xk 1 [120] _ (by simp [cX]) (by simp [cY]) (Lk xc)
 have s3 := Xk 3 [] _ (by simp [cX]) (by simp [cY]) (Lk x120)
 have lE2 : Nc [Sm.mk 1 [120] [.mk 4 0 0 [102] [.mk 1 0 65 [] []]] [] [], .mk 3 [] [.mk 2 0 0 [120] []] [] []] := ⟨by simp [cY], fun e he => by
  simp only [List.mem_cons, List.not_mem_nil, or_false] at he
  rcases he with rfl | rfl
  ·exact s1
  exact s3⟩
 have f1 : xF.ok := ⟨by simp [cY, xF], ⟨by simp [cY, xF], by simp [cY, xF]⟩, ⟨by simp [cY, xF], by simp [xF]⟩, ⟨by simp [cY, xF], by simpa [xF] using s7⟩⟩
 have f2 : xM.ok := ⟨by simp [cY, xM], ⟨by simp [cY, xM], by simp [xM]⟩, ⟨by simp [cY, xM], by simp [xM]⟩, lE2⟩
 refine ⟨⟨⟨by simp [cY, xP], by simp [cY, xP]⟩, by simp [cY, xP], by simp [xP], by simp [cY, xP], fun f hf => ?_⟩, by simp [xP], by simp [xP], by simp [xP], fun f hf => ?_⟩
 ·simp only [xP, List.mem_cons, List.not_mem_nil, or_false] at hf
  rcases hf with rfl | rfl
  ·exact f1
  exact f2
 simp only [xP, List.mem_cons, List.not_mem_nil, or_false] at hf
 rcases hf with rfl | rfl
 ·refine ⟨by simp [xF], by simp [xF], ?_⟩
  show jD [_] ≤ _
  simp [jD, Sm.sz, mD, Ex.sz]
 refine ⟨by simp [xM], by simp [xM], ?_⟩
 show jD [_, _] ≤ _
 simp [jD, Sm.sz, mD, Ex.sz]
theorem To : fP xP = 0 := by
 simp only [fP, iZ, nG, xP, xF, xM, List.all_cons, List.all_nil, jR, nF, rE, jS, nH, rD, jJ, jH, wD, fZ, gT, iJ, iK, eO, fD, Ex.kids, Sm.es, Sm.thn, Sm.els]
 decide +kernel
theorem J7 : Wo xP = (xC, 0) := by
 unfold Wo
 rw [if_pos To, if_pos (by decide +kernel)]
 have : Lu xP = xC := by
  simp only [Lu, Bo, uL, Nb, xP, xF, xM, xC, Tg, Tf, rM, L2, List.map_cons, List.map_nil, Ob, Jq, Pc, Oc, lP, jX]
  rfl
 rw [this]
theorem Zq : nB (qQ xC [] 9) 20 2 = some (1, [65], 1) := by decide +kernel
theorem Wm : oT xC = 7 := by decide +kernel
theorem Mz : dG cO 21 [] xP.av := by
 refine Na (v := .agg [.isl 1 [[.str [120]]], .nsl, .isl 5 [[.str [102], .isl 1 [[.str [97]]], .nsl, .bool true, .isl 5 [[.int .i64 7, .str [], .isl 5 [[.int .i64 2, .int .i64 0, .int .u32 0, .str [97], .nsl]], .nsl, .nsl]]],
  [.str [109, 97, 105, 110], .nsl, .nsl, .bool false, .isl 5 [[.int .i64 1, .str [120], .isl 5 [[.int .i64 4, .int .i64 0, .int .u32 0, .str [102], .isl 5 [[.int .i64 1, .int .i64 0, .int .u32 65, .str [], .nsl]]]], .nsl, .nsl], [.int .i64 3, .str [], .isl 5 [[.int .i64 2, .int .i64 0, .int .u32 0, .str [120], .nsl]], .nsl, .nsl]]]]]) ?_ ?_
 ·skip
  refine bD 26 [.cell 0 45] Tryd.func21 rfl rfl rfl rfl ?_
  refine aB fun K hK => ?_
  refine aA rfl ?_
  simp only [RR, seval]
  refine aK fun b0 hn0 => ?_
  simp only [RR, seval]
  refine hK _ _ ?_; clear hK K
  refine aB fun K hK => ?_
  refine aA rfl ?_
  simp only [RR, seval]
  refine eB ?_
  simp only [RR, seval]
  refine eB ?_
  simp only [RR, seval]
  refine eB ?_
  simp only [RR, seval]
  refine aK fun b1 hn1 => ?_
  have nb1_b0 : b1 ≠ b0 := fun e => by rw [e] at hn1; simp only [RR, seval, reduceCtorEq] at hn1
  have nb0_b1 : b0 ≠ b1 := fun e => nb1_b0 e.symm
  simp only [RR, seval]
  refine hK _ _ ?_; clear hK K
  refine aB fun K hK => ?_
  refine aA rfl ?_
  simp only [RR, seval]
  refine eB ?_
  simp only [RR, seval]
  refine aK fun b2 hn2 => ?_
  have nb2_b0 : b2 ≠ b0 := fun e => by rw [e] at hn2; simp only [nb0_b1, RR, seval, reduceCtorEq] at hn2
  have nb0_b2 : b0 ≠ b2 := fun e => nb2_b0 e.symm
  have nb2_b1 : b2 ≠ b1 := fun e => by rw [e] at hn2; simp only [RR, seval, reduceCtorEq] at hn2
  have nb1_b2 : b1 ≠ b2 := fun e => nb2_b1 e.symm
  simp only [RR, seval]
  refine hK _ _ ?_; clear hK K
  refine aB fun K hK => ?_
  refine aA rfl ?_
  simp only [RR, seval]
  refine eB ?_
  simp only [RR, seval]
  refine eB ?_
  simp only [RR, seval]
  refine eB ?_
  simp only [RR, seval]
  refine aK fun b3 hn3 => ?_
  have nb3_b0 : b3 ≠ b0 := fun e => by rw [e] at hn3; simp only [nb0_b1, nb0_b2, RR, seval, reduceCtorEq] at hn3
  have nb0_b3 : b0 ≠ b3 := fun e => nb3_b0 e.symm
  have nb3_b1 : b3 ≠ b1 := fun e => by rw [e] at hn3; simp only [nb1_b2, RR, seval, reduceCtorEq] at hn3
  have nb1_b3 : b1 ≠ b3 := fun e => nb3_b1 e.symm
  have nb3_b2 : b3 ≠ b2 := fun e => by rw [e] at hn3; simp only [RR, seval, reduceCtorEq] at hn3
  have nb2_b3 : b2 ≠ b3 := fun e => nb3_b2 e.symm
  simp only [RR, seval]
  refine hK _ _ ?_; clear hK K
  refine aB fun K hK => ?_
  refine aA rfl ?_
  simp only [RR, seval]
  refine eB ?_
  simp only [nb1_b2, nb1_b3, RR, seval]
  refine eB ?_
  simp only [nb0_b1, nb0_b2, nb0_b3, RR, seval]
  refine hK _ _ ?_; clear hK K
  refine aP ?_; simp only [aV, aM, bE, RR, seval]
  refine aU.pure ?_
  rfl
 simp only [xP, xF, xM, Pg.av, Pg.row, Fu.row, Ex.row_eq, Sm.row_eq, List.map_cons, List.map_nil, cH, Ex.kind, Ex.op, Ex.num, Ex.name, Ex.kids, Sm.kind, Sm.name, Sm.es, Sm.thn, Sm.els]
 refine lG.aggR ?_
 repeat' (first | exact iX.nil | exact qW.nil | exact lG.refl _ | exact lG.nsl _ | refine iX.cons ?_ ?_ | refine qW.cons ?_ ?_ | refine lG.isl ?_)
end Go.Proofs.YtnfbbjhdflhmjaaDoor
