/- Chapter 19: the law's example; alive. -/
import Derived.Test.YtnfbbjhdflhmjaaDoorGLd
import Derived.Test.YtnfbbjhdflhmjaaDoorGKh
import Derived.Test.YtnfbbjhdflhmjaaDoorGOd
import Derived.Test.YtnfbbjhdflhmjaaDoorAl4
set_option linter.unusedSimpArgs false
set_option linter.unusedVariables false
set_option maxRecDepth 10000
namespace Go.Proofs.YtnfbbjhdflhmjaaDoor
open Go.Al
def xF : Fu := ⟨[102], [[97]], [], true, [.mk 7 [] [.mk 2 0 0 [97] []] [] []]⟩
def xM : Fu := ⟨[109, 97, 105, 110], [], [], false, [.mk 1 [120] [.mk 4 0 0 [102] [.mk 1 0 65 [] []]] [] [], .mk 3 [] [.mk 2 0 0 [120] []] [] []]⟩
def xP : Pg := ⟨[[120]], [], [xF, xM]⟩
def xC1 : CF := ⟨1, 1, 1, true, [.mk 7 0 0 [.mk 2 0 0 1 0 []] [] []]⟩
def xC2 : CF := ⟨0, 0, 2, false, [.mk 1 0 0 [.mk 4 0 0 0 0 [.mk 1 0 65 0 0 []]] [] [], .mk 3 0 0 [.mk 2 0 0 0 0 []] [] []]⟩
def xC : Co := ⟨2, [xC1, xC2]⟩
theorem ok_e (k o n : Int) (s : Str) (l : List Ex) (hk : i64R k) (ho : i64R o) (hn : u32R n) (hs : fitL s) (hl : okE l) : (Ex.mk k o n s l).ok := .mk k o n s l hk ho hn hs hl.fit hl.all
theorem l_nil : okE [] := ⟨by simp [fitL], by simp⟩
theorem l_one {e : Ex} (h : e.ok) : okE [e] := ⟨by simp [fitL], by simpa using h⟩
theorem s_nil : okS [] := ⟨by simp [fitL], by simp⟩
theorem ok_s (k : Int) (s : Str) (l : List Ex) (hk : i64R k) (hs : fitL s) (hl : okE l) : (Sm.mk k s l [] []).ok := .mk k s l [] [] hk hs hl s_nil.fit s_nil.all s_nil.fit s_nil.all
theorem few_x : xP.few := by
 have x97 := ok_e 2 0 0 [97] [] (by simp [i64R]) (by simp [i64R]) (by simp [u32R]) (by simp [fitL]) l_nil
 have x120 := ok_e 2 0 0 [120] [] (by simp [i64R]) (by simp [i64R]) (by simp [u32R]) (by simp [fitL]) l_nil
 have x65 := ok_e 1 0 65 [] [] (by simp [i64R]) (by simp [i64R]) (by simp [u32R]) (by simp [fitL]) l_nil
 have xc := ok_e 4 0 0 [102] [.mk 1 0 65 [] []] (by simp [i64R]) (by simp [i64R]) (by simp [u32R]) (by simp [fitL]) (l_one x65)
 have s7 := ok_s 7 [] _ (by simp [i64R]) (by simp [fitL]) (l_one x97)
 have s1 := ok_s 1 [120] _ (by simp [i64R]) (by simp [fitL]) (l_one xc)
 have s3 := ok_s 3 [] _ (by simp [i64R]) (by simp [fitL]) (l_one x120)
 have lE2 : okS [Sm.mk 1 [120] [.mk 4 0 0 [102] [.mk 1 0 65 [] []]] [] [], .mk 3 [] [.mk 2 0 0 [120] []] [] []] := ⟨by simp [fitL], fun e he => by
  simp only [List.mem_cons, List.not_mem_nil, or_false] at he
  rcases he with rfl | rfl
  ·exact s1
  ·exact s3⟩
 have f1 : xF.ok := ⟨by simp [fitL, xF], ⟨by simp [fitL, xF], by simp [fitL, xF]⟩, ⟨by simp [fitL, xF], by simp [xF]⟩, ⟨by simp [fitL, xF], by simpa [xF] using s7⟩⟩
 have f2 : xM.ok := ⟨by simp [fitL, xM], ⟨by simp [fitL, xM], by simp [xM]⟩, ⟨by simp [fitL, xM], by simp [xM]⟩, lE2⟩
 refine ⟨⟨⟨by simp [fitL, xP], by simp [fitL, xP]⟩, by simp [fitL, xP], by simp [xP], by simp [fitL, xP], fun f hf => ?_⟩, by simp [xP], by simp [xP], by simp [xP], fun f hf => ?_⟩
 ·simp only [xP, List.mem_cons, List.not_mem_nil, or_false] at hf
  rcases hf with rfl | rfl
  ·exact f1
  ·exact f2
 ·simp only [xP, List.mem_cons, List.not_mem_nil, or_false] at hf
  rcases hf with rfl | rfl
  ·refine ⟨by simp [xF], by simp [xF], ?_⟩
   show szS [_] ≤ _
   simp [szS, Sm.sz, szE, Ex.sz]
  ·refine ⟨by simp [xM], by simp [xM], ?_⟩
   show szS [_, _] ≤ _
   simp [szS, Sm.sz, szE, Ex.sz]
theorem sound_x : soundT xP = 0 := by
 simp only [soundT, rightP, rightF, xP, xF, xM, List.all_cons, List.all_nil, rightS_cons, rightS_nil, rightM, rightE_cons, rightE_nil, rightX, checkI, namesB, numsB, namesFrom, numsFrom, usesS_cons, usesE_cons, usesS, usesE, Ex.kids, Sm.es, Sm.thn, Sm.els]
 decide +kernel
theorem of_x : ofP xP = (xC, 0) := by
 unfold ofP
 rw [if_pos sound_x, if_pos (by decide +kernel)]
 have : coreP xP = xC := by
  simp only [coreP, wordsP, baseW, outT, xP, xF, xM, xC, xC1, xC2, coFs, coF, List.map_cons, List.map_nil, coS, coSs, coE, coEs, sumA, sumF]
  rfl
 rw [this]
theorem run_x : runK (cxC xC [] 9) 20 2 = some (1, [65], 1) := by decide +kernel
theorem siz_x : sizC xC = 7 := by decide +kernel
theorem plain_con : PCon env 21 [] xP.av := by
 refine pcon_weak (v := .agg [.isl 1 [[.str [120]]], .nsl, .isl 5 [[.str [102], .isl 1 [[.str [97]]], .nsl, .bool true, .isl 5 [[.int .i64 7, .str [], .isl 5 [[.int .i64 2, .int .i64 0, .int .u32 0, .str [97], .nsl]], .nsl, .nsl]]],
  [.str [109, 97, 105, 110], .nsl, .nsl, .bool false, .isl 5 [[.int .i64 1, .str [120], .isl 5 [[.int .i64 4, .int .i64 0, .int .u32 0, .str [102], .isl 5 [[.int .i64 1, .int .i64 0, .int .u32 65, .str [], .nsl]]]], .nsl, .nsl], [.int .i64 3, .str [], .isl 5 [[.int .i64 2, .int .i64 0, .int .u32 0, .str [120], .nsl]], .nsl, .nsl]]]]]) ?_ ?_
 ·skip
  refine con_of 26 [.cell 0 45] Tryd.func21 rfl rfl rfl rfl ?_
  refine awp_seq_k fun K hK => ?_
  refine awp_region rfl ?_
  simp only [RR, seval]
  refine awpN_intro fun b0 hn0 => ?_
  simp only [RR, seval]
  refine hK _ _ ?_; clear hK K
  refine awp_seq_k fun K hK => ?_
  refine awp_region rfl ?_
  simp only [RR, seval]
  refine awpB_sealed ?_
  simp only [RR, seval]
  refine awpB_sealed ?_
  simp only [RR, seval]
  refine awpB_sealed ?_
  simp only [RR, seval]
  refine awpN_intro fun b1 hn1 => ?_
  have nb1_b0 : b1 ≠ b0 := fun e => by rw [e] at hn1; simp only [RR, seval, reduceCtorEq] at hn1
  have nb0_b1 : b0 ≠ b1 := fun e => nb1_b0 e.symm
  simp only [RR, seval]
  refine hK _ _ ?_; clear hK K
  refine awp_seq_k fun K hK => ?_
  refine awp_region rfl ?_
  simp only [RR, seval]
  refine awpB_sealed ?_
  simp only [RR, seval]
  refine awpN_intro fun b2 hn2 => ?_
  have nb2_b0 : b2 ≠ b0 := fun e => by rw [e] at hn2; simp only [nb0_b1, RR, seval, reduceCtorEq] at hn2
  have nb0_b2 : b0 ≠ b2 := fun e => nb2_b0 e.symm
  have nb2_b1 : b2 ≠ b1 := fun e => by rw [e] at hn2; simp only [RR, seval, reduceCtorEq] at hn2
  have nb1_b2 : b1 ≠ b2 := fun e => nb2_b1 e.symm
  simp only [RR, seval]
  refine hK _ _ ?_; clear hK K
  refine awp_seq_k fun K hK => ?_
  refine awp_region rfl ?_
  simp only [RR, seval]
  refine awpB_sealed ?_
  simp only [RR, seval]
  refine awpB_sealed ?_
  simp only [RR, seval]
  refine awpB_sealed ?_
  simp only [RR, seval]
  refine awpN_intro fun b3 hn3 => ?_
  have nb3_b0 : b3 ≠ b0 := fun e => by rw [e] at hn3; simp only [nb0_b1, nb0_b2, RR, seval, reduceCtorEq] at hn3
  have nb0_b3 : b0 ≠ b3 := fun e => nb3_b0 e.symm
  have nb3_b1 : b3 ≠ b1 := fun e => by rw [e] at hn3; simp only [nb1_b2, RR, seval, reduceCtorEq] at hn3
  have nb1_b3 : b1 ≠ b3 := fun e => nb3_b1 e.symm
  have nb3_b2 : b3 ≠ b2 := fun e => by rw [e] at hn3; simp only [RR, seval, reduceCtorEq] at hn3
  have nb2_b3 : b2 ≠ b3 := fun e => nb3_b2 e.symm
  simp only [RR, seval]
  refine hK _ _ ?_; clear hK K
  refine awp_seq_k fun K hK => ?_
  refine awp_region rfl ?_
  simp only [RR, seval]
  refine awpB_sealed ?_
  simp only [nb1_b2, nb1_b3, RR, seval]
  refine awpB_sealed ?_
  simp only [nb0_b1, nb0_b2, nb0_b3, RR, seval]
  refine hK _ _ ?_; clear hK K
  refine awp_ret ?_; simp only [bodyQ, aresult, ares, RR, seval]
  refine Gives.pure ?_
  rfl
 ·simp only [xP, xF, xM, Pg.av, Pg.row, Fu.row, Ex.row_eq, Sm.row_eq, List.map_cons, List.map_nil, strRow, Ex.kind, Ex.op, Ex.num, Ex.name, Ex.kids, Sm.kind, Sm.name, Sm.es, Sm.thn, Sm.els]
  refine Sub.aggR ?_
  repeat' (first | exact SubR.nil | exact SubRs.nil | exact Sub.refl _ | exact Sub.nsl _ | refine SubR.cons ?_ ?_ | refine SubRs.cons ?_ ?_ | refine Sub.isl ?_)
end Go.Proofs.YtnfbbjhdflhmjaaDoor
