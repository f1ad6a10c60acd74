/- Chapter 18: MeaningCounts. -/
import Derived.Test.YtlokndnkpleegaaM18w
import Derived.Test.YtlokndnkpleegaaAlSf
set_option linter.unusedSimpArgs false
set_option linter.unusedVariables false
set_option maxRecDepth 10000
namespace Go.Proofs.Ytlokndnkpleegaa
open Go.Al
theorem okE_1' {e : Ex} (h : e.ok) : okE [e] := ⟨(by simp [fitL]), fun x hx => by rw [List.mem_singleton] at hx; rw [hx]; exact h⟩
theorem callS_ok {s : Str} (hs : fitL s) {e : Ex} (he : e.ok) : (callS s e).ok := .mk _ _ _ _ _ (by simp [i64R]) hs (okE_1' he) (by simp [fitL]) (fun e h => by cases h) (by simp [fitL]) (fun e h => by cases h)
theorem cnt_ok (m : Nat) (hm : m < 100) : RunOk (cntP m) := by
  have hi := nameX_ok (s := [105]) (by simp [fitL])
  have hs := nameX_ok (s := [115]) (by simp [fitL])
  have hx := nameX_ok (s := [120]) (by simp [fitL])
  have u1 := numX_ok (n := 1) (by simp [u32R])
  have u0 := numX_ok (n := 0) (by simp [u32R])
  have um := numX_ok (n := (m : Int)) (by simp only [u32R]; omega)
  have ho : ∀ k : Nat, k < 4 → (outS k).ok := fun k hk => putS_ok (opX_ok (by simp [i64R]) hs (numX_ok (by simp only [u32R]; omega)))
  have hl : (loopS m).ok := whileS_ok (opX_ok (by simp [i64R]) hi um) (okS_2 (callS_ok (by simp [addN, fitL]) hi) (setS_ok (by simp [fitL]) (opX_ok (by simp [i64R]) hi u1)))
  have h1 : ∀ f ∈ (cntP m).funs, f = addF ∨ f = ⟨mainN, [], [[105]], false, [loopS m, outS 0, outS 1, outS 2, outS 3]⟩ := fun f hf => by simpa [cntP] using hf
  refine ⟨⟨⟨by simp [cntP, fitL], fun s hs => ?_⟩, by simp [cntP, fitL], (fun a h => by cases h), by simp [cntP, fitL], fun f hf => ?_⟩, ?_, fun f hf => ?_, by simp [cntP], by simp [cntP], by simp [cntP], by simp [cntP], fun f hf => ?_, fun a h => by cases h⟩
  · simp only [cntP, List.mem_singleton] at hs; subst hs; simp [fitL]
  · rcases h1 f hf with rfl | rfl
    · exact ⟨by simp [addF, addN, fitL], ⟨by simp [addF, fitL], (fun s h => by simp only [addF, List.mem_singleton] at h; subst h; simp [fitL])⟩, ⟨by simp [addF, fitL], fun s h => by cases h⟩, okS_2 (setS_ok (by simp [fitL]) (opX_ok (by simp [i64R]) hs hx)) (setS_ok (by simp [fitL]) u0)⟩
    · refine ⟨by simp [mainN, fitL], ⟨by simp [fitL], (fun s h => by cases h)⟩, ⟨by simp [fitL], fun s h => by simp only [List.mem_singleton] at h; subst h; simp [fitL]⟩, ⟨by simp [fitL], fun s h => ?_⟩⟩
      simp only [List.mem_cons, List.not_mem_nil, or_false] at h
      rcases h with rfl | rfl | rfl | rfl | rfl
      · exact hl
      · exact ho 0 (by omega)
      · exact ho 1 (by omega)
      · exact ho 2 (by omega)
      · exact ho 3 (by omega)
  · show ([[115]] ++ [] ++ [addN, mainN] : List Str).Nodup
    decide
  · rcases h1 f hf with rfl | rfl <;> simp [namesL, addF]
  · rcases h1 f hf with rfl | rfl
    · exact ⟨by simp [addF], by simp [addF], by simp [addF, szS, Sm.sz, szE, Ex.sz, setS, opX, nameX, numX]⟩
    · exact ⟨by simp, by simp, by simp [loopS, outS, callS, szS, Sm.sz, szE, Ex.sz, setS, putS, whileS, opX, nameX, numX]⟩
theorem wrapU {n : Int} (h0 : 0 ≤ n) (h1 : n ≤ 4294967295) : IntKind.wrap .u32 n = n := by
  have h : IntKind.wrap .u32 n = n % 4294967296 := by simp [IntKind.wrap, IntKind.signed, IntKind.bits]
  rw [h]; omega
def outs (j : Nat) : List Sm := (List.range j).map outS
theorem outS_row (j : Nat) : (outS j).row = [.int .i64 3, .str [], .isl 5 [[.int .i64 6, .int .i64 13, .int .u32 0, .str [], .isl 5 [[.int .i64 2, .int .i64 0, .int .u32 0, .str [115], .isl 5 []], [.int .i64 1, .int .i64 0, .int .u32 (8 * (j : Int)), .str [], .isl 5 []]]]], .isl 5 [], .isl 5 []] := by
  rw [Sm.row_eq, outS, putS, opX, nameX, numX]
  simp only [Sm.kind, Sm.name, Sm.es, Sm.thn, Sm.els, List.map_cons, List.map_nil, Ex.row, rowsE]
def endB (m : Nat) : Bool :=
  (decide
        (sumB m =
          [UInt8.ofNat
              (IntKind.u8.wrap
                  (IntKind.u32.wrap
                    (IntKind.i64.wrap ((IntKind.i64.wrap (↑m * IntKind.i64.wrap (↑m - 1))).tdiv 2)))).toNat,
            UInt8.ofNat
              (IntKind.u8.wrap
                  ((IntKind.u32.wrap
                        (IntKind.i64.wrap ((IntKind.i64.wrap (↑m * IntKind.i64.wrap (↑m - 1))).tdiv 2))).fdiv
                    (2 ^ min 8 IntKind.u32.bits))).toNat,
            UInt8.ofNat
              (IntKind.u8.wrap
                  ((IntKind.u32.wrap
                        (IntKind.i64.wrap ((IntKind.i64.wrap (↑m * IntKind.i64.wrap (↑m - 1))).tdiv 2))).fdiv
                    (2 ^ min 16 IntKind.u32.bits))).toNat,
            UInt8.ofNat
              (IntKind.u8.wrap
                  ((IntKind.u32.wrap
                        (IntKind.i64.wrap ((IntKind.i64.wrap (↑m * IntKind.i64.wrap (↑m - 1))).tdiv 2))).fdiv
                    (2 ^ min 24 IntKind.u32.bits))).toNat]) &&
      decide (((2 * m + 1 : Nat) : Int) = IntKind.i64.wrap (IntKind.i64.wrap (2 * ↑m) + 1)))
theorem endB_all : (List.range 100).all endB = true := by decide +kernel
theorem endB_true (m : Nat) (hm : m < 100) : endB m = true := List.all_eq_true.1 endB_all m (List.mem_range.2 hm)
set_option maxHeartbeats 8000000 in
theorem MeaningCounts_con (n0 : Int) (hn0 : 0 ≤ n0 ∧ n0 ≤ 255) : PCon env 7 [.int .u8 n0] (.bool true) := by
  obtain ⟨n1, hn1⟩ := Int.eq_ofNat_of_zero_le hn0.1
  subst hn1
  have e1 : IntKind.wrap .i64 (n1 : Int) = (n1 : Int) := by rw [IntWalk.i64_in _ (by omega)]
  have e2 : (n1 : Int).tmod 100 = ((n1 % 100 : Nat) : Int) := IntWalk.up_tmod rfl rfl
  have hm : n1 % 100 < 100 := Nat.mod_lt _ (by omega)
  generalize n1 % 100 = m at e2 hm
  have hr := Run_con (cntP m) (cnt_ok m hm) [] (by simp) 1000 (by simp [i64R]) (cnt_run m hm)
  have e3 : IntKind.wrap .u32 (m : Int) = (m : Int) := wrapU (by omega) (by omega)
  have i1 := lname_con [115]
  have i2 := lname_con [120]
  have i3 := lop_con 4 (nameX [115]) (nameX [120])
  have i4 := lset_con [115] (opX 4 (nameX [115]) (nameX [120]))
  have i5 := lnum_con 0
  have i6 := lset_con [120] (numX 0)
  have i7 := lname_con [105]
  have i8 := lnum_con (m : Int)
  have i9 := lop_con 14 (nameX [105]) (numX (m : Int))
  have i10 := lnum_con 1
  have i11 := lop_con 4 (nameX [105]) (numX 1)
  have i12 := lset_con [105] (opX 4 (nameX [105]) (numX 1))
  have i13 := lwhile_con (opX 14 (nameX [105]) (numX (m : Int))) [callS addN (nameX [105]), setS [105] (opX 4 (nameX [105]) (numX 1))]
  have hav : (cntP m).av = .agg [.isl 1 [[.str [115]]], .isl 2 [], .isl 5 [addF.row, [.str mainN, .isl 1 [], .isl 1 [[.str [105]]], .bool false, .isl 5 ([loopS m, outS 0, outS 1, outS 2, outS 3].map Sm.row)]]] := rfl
  have hlr : (loopS m).row = (loopS m).row := rfl
  rw [hav] at hr
  rw [show whileS (opX 14 (nameX [105]) (numX (m : Int))) [callS addN (nameX [105]), setS [105] (opX 4 (nameX [105]) (numX 1))] = loopS m from rfl] at i13
  have hwr : ∃ a b c d e, (loopS m).row = [.int .i64 a, .str b, .isl 5 c, .isl 5 d, .isl 5 e] := ⟨_, _, _, _, _, Sm.row_eq _⟩
  clear hav hlr
  generalize hout : [loopS m, outS 0, outS 1, outS 2, outS 3].map Sm.row = RR5 at hr
  have hout' : ([loopS m] ++ outs 4).map Sm.row = RR5 := hout
  clear hout
  obtain ⟨wa, wb, wc, wd, we, hwr⟩ := hwr
  rw [hwr] at i13
  simp only [addF, addN, Fu.row, mainN, callS, putS, setS, whileS, opX, numX, nameX, Ex.row_eq, Sm.row_eq, List.map_cons, List.map_nil, strRow, Ex.kind, Ex.op, Ex.num, Ex.name, Ex.kids, Sm.kind, Sm.name, Sm.es, Sm.thn, Sm.els, resV] at hr i1 i2 i3 i4 i5 i6 i7 i8 i9 i10 i11 i12 i13
  refine con_of 91 [.tmp 2] Try.func7 rfl rfl rfl rfl ?_
  refine awp_seq_k fun K hK => ?_
  refine awp_region rfl ?_
  simp only [e1, e2, e3, RR, seval]
  refine hK _ _ ?_; clear hK K
  refine awp_seq_k fun K hK => ?_
  refine awp_region rfl ?_
  simp only [e1, e2, e3, RR, seval]
  refine hK _ _ ?_; clear hK K
  refine awp_seq_k fun K hK => ?_
  refine awp_region rfl ?_
  simp only [e1, e2, e3, RR, seval]
  refine awpB_sealed ?_
  simp only [e1, e2, e3, RR, seval]
  refine awpC_pure' (i1) ?_
  simp only [e1, e2, e3, RR, seval]
  refine awpC_pure' (i2) ?_
  simp only [e1, e2, e3, RR, seval]
  refine awpC_pure' (i3) ?_
  simp only [e1, e2, e3, RR, seval]
  refine awpC_pure' (i4) ?_
  simp only [e1, e2, e3, RR, seval]
  refine awpC_pure' (i5) ?_
  simp only [e1, e2, e3, RR, seval]
  refine awpC_pure' (i6) ?_
  simp only [e1, e2, e3, RR, seval]
  refine awpB_sealed ?_
  simp only [e1, e2, e3, RR, seval]
  refine awpN_intro fun b4 hn4 => ?_
  simp only [e1, e2, e3, RR, seval]
  refine hK _ _ ?_; clear hK K
  refine awp_seq_k fun K hK => ?_
  refine awp_region rfl ?_
  simp only [e1, e2, e3, RR, seval]
  refine awpC_pure' (i7) ?_
  simp only [e1, e2, e3, RR, seval]
  refine awpB_sealed ?_
  simp only [e1, e2, e3, RR, seval]
  refine awpN_intro fun b5 hn5 => ?_
  have nb5_b4 : b5 ≠ b4 := fun e => by rw [e] at hn5; simp only [e1, e2, e3, RR, seval, reduceCtorEq] at hn5
  have nb4_b5 : b4 ≠ b5 := fun e => nb5_b4 e.symm
  simp only [nb5_b4, nb4_b5, e1, e2, e3, RR, seval]
  refine hK _ _ ?_; clear hK K
  refine awp_seq_k fun K hK => ?_
  refine awp_region_draw2 (fun x => x ≠ b4 ∧ x ≠ b5) [(1, 3), (2, 3), (5, 0), (0, 1), (3, 1), (4, 1), (6, 1), (7, 1), (8, 1), (9, 1), (10, 2), (11, 1)] [(12, 1), (13, 3)] draws (by kernel_rfl) rfl rfl ?_
  simp only [emitF, markOf, touch_mp, touch_imp, touch_nmp, ne_eq, not_true_eq_false, and_false, false_and, not_false_eq_true, nb5_b4, nb4_b5, e1, e2, e3, RR, seval]
  refine awpC_pure' i7 ?_
  simp only [emitF, markOf, touch_mp, touch_imp, touch_nmp, ne_eq, not_true_eq_false, and_false, false_and, not_false_eq_true, nb5_b4, nb4_b5, e1, e2, e3, RR, seval]
  refine awpC_pure' i8 ?_
  simp only [emitF, markOf, touch_mp, touch_imp, touch_nmp, ne_eq, not_true_eq_false, and_false, false_and, not_false_eq_true, nb5_b4, nb4_b5, e1, e2, e3, RR, seval]
  refine awpC_pure' i9 ?_
  simp only [emitF, markOf, touch_mp, touch_imp, touch_nmp, ne_eq, not_true_eq_false, and_false, false_and, not_false_eq_true, nb5_b4, nb4_b5, e1, e2, e3, RR, seval]
  refine awpC_pure' i7 ?_
  simp only [emitF, markOf, touch_mp, touch_imp, touch_nmp, ne_eq, not_true_eq_false, and_false, false_and, not_false_eq_true, nb5_b4, nb4_b5, e1, e2, e3, RR, seval]
  refine awpC_pure' i10 ?_
  simp only [emitF, markOf, touch_mp, touch_imp, touch_nmp, ne_eq, not_true_eq_false, and_false, false_and, not_false_eq_true, nb5_b4, nb4_b5, e1, e2, e3, RR, seval]
  refine awpC_pure' i11 ?_
  simp only [emitF, markOf, touch_mp, touch_imp, touch_nmp, ne_eq, not_true_eq_false, and_false, false_and, not_false_eq_true, nb5_b4, nb4_b5, e1, e2, e3, RR, seval]
  refine awpC_pure' i12 ?_
  simp only [emitF, markOf, touch_mp, touch_imp, touch_nmp, ne_eq, not_true_eq_false, and_false, false_and, not_false_eq_true, nb5_b4, nb4_b5, e1, e2, e3, RR, seval]
  refine awpC_pure i13 (by refine SubR.list ?_; repeat' (first | exact SubR.nil | exact SubRs.nil | exact Sub.refl _ | exact Sub.nsl _ | refine SubR.cons ?_ ?_ | refine SubRs.cons ?_ ?_ | refine Sub.isl ?_ | refine Sub.aggR ?_)) ?_
  simp only [emitF, markOf, touch_mp, touch_imp, touch_nmp, ne_eq, not_true_eq_false, and_false, false_and, not_false_eq_true, nb5_b4, nb4_b5, e1, e2, e3, RR, seval]
  refine awpB_own fun b39 hn39 => ?_
  have nb4_b39 : b4 ≠ b39 := fun e => by rw [← e] at hn39; simp only [nb5_b4, nb4_b5, e1, e2, e3, RR, seval, reduceCtorEq] at hn39
  have nb5_b39 : b5 ≠ b39 := fun e => by rw [← e] at hn39; simp only [nb5_b4, nb4_b5, e1, e2, e3, RR, seval, reduceCtorEq] at hn39
  have nb39_b4 := fun e => nb4_b39 (Eq.symm e)
  have nb39_b5 := fun e => nb5_b39 (Eq.symm e)
  simp only [emitF, markOf, touch_mp, touch_imp, touch_nmp, ne_eq, not_true_eq_false, and_false, false_and, not_false_eq_true, nb5_b4, nb4_b5, nb4_b39, nb5_b39, nb39_b4, nb39_b5, e1, e2, e3, RR, seval]
  refine hK _ _ ?_; clear hK K
  refine awp_seq ?_
  refine awp_name fun F1 M1 hfr hH => ?_
  have g2 := hfr 2
  have g3 := hfr 3
  have g4 := hfr 4
  have g6 := hfr 6
  have gb4 := hH b4
  have gb5 := hH b5
  have gb39 := hH b39
  try simp only [nb5_b4, nb4_b5, nb4_b39, nb5_b39, nb39_b4, nb39_b5, e1, e2, e3, RR, seval] at g2 g3 g4 g6 gb4 gb5 gb39
  have f2 := g2; clear g2
  have f3 := g3; clear g3
  have f4 := g4; clear g4
  have f6 := g6; clear g6
  have hb4 := gb4; clear gb4
  have hb5 := gb5; clear gb5
  have hb39 := gb39; clear gb39
  clear hfr hH
  refine awp_seq_k fun K hK => ?_
  refine awp_region rfl ?_
  simp only [f2, f3, f4, f6, hb4, hb5, hb39, nb5_b4, nb4_b5, nb4_b39, nb5_b39, nb39_b4, nb39_b5, e1, e2, e3, RR, seval]
  refine hK _ _ ?_; clear hK K
  refine awp_name fun F2 M2 hfr hH => ?_
  have g2 := hfr 2
  have g3 := hfr 3
  have g4 := hfr 4
  have g6 := hfr 6
  have g7 := hfr 7
  have gb4 := hH b4
  have gb5 := hH b5
  have gb39 := hH b39
  try simp only [f2, f3, f4, f6, hb4, hb5, hb39, nb5_b4, nb4_b5, nb4_b39, nb5_b39, nb39_b4, nb39_b5, e1, e2, e3, RR, seval] at g2 g3 g4 g6 g7 gb4 gb5 gb39
  have f2 := g2; clear g2
  have f3 := g3; clear g3
  have f4 := g4; clear g4
  have f6 := g6; clear g6
  have f7 := g7; clear g7
  have hb4 := gb4; clear gb4
  have hb5 := gb5; clear gb5
  have hb39 := gb39; clear gb39
  clear hfr hH
  have hb39' : M2 b39 = some (.rows 5 (([loopS m] ++ outs 0).map Sm.row)) := by rw [hb39]; simp only [outs, List.range_zero, List.map_nil, List.append_nil, List.map_cons]; rw [hwr]
  refine awp_block ?_
  refine awp_while [2, 3, 4] (4) (fun k fr M => M b4 = M2 b4 ∧ M b5 = M2 b5 ∧ ∃ j : Nat, k + j = 4 ∧ fr 7 = .int .u32 (j : Int) ∧ OwnL 5 (fr 6) (([loopS m] ++ outs j).map Sm.row) M ∧ Al.off (fr 6) b4 ∧ Al.off (fr 6) b5) ⟨rfl, rfl, 0, rfl, f7, (by rw [f6]; exact .inr ⟨b39, rfl, hb39'⟩), (by rw [f6]; intro s n e; injection e with _ e2 _; exact nb4_b39 e2.symm), (by rw [f6]; intro s n e; injection e with _ e2 _; exact nb5_b39 e2.symm)⟩ ?_
  rintro k F3 M3 ⟨gb4, gb5, ⟨j, hkj, f7, hown, ho4, ho5⟩⟩ agx K0 hK0
  have f2 := (agx 2 rfl).trans f2
  have f3 := (agx 3 rfl).trans f3
  have f4 := (agx 4 rfl).trans f4
  have hb4 := gb4.trans hb4
  have hb5 := gb5.trans hb5
  have ag0 := agree.refl [2, 3, 4] F3
  have e0_b4 := gb4; clear gb4
  have e0_b5 := gb5; clear gb5
  clear agx
  obtain ⟨v6, f6⟩ : ∃ v, F3 6 = v := ⟨_, rfl⟩
  rw [f6] at hown ho4 ho5
  refine awp_seq ?_
  refine awp_seq_k fun K hK => ?_
  refine awp_region rfl ?_
  simp only [f2, f3, f4, f6, f7, hb4, hb5, nb5_b4, nb4_b5, nb4_b39, nb5_b39, nb39_b4, nb39_b5, e1, e2, e3, RR, seval]
  refine hK _ _ ?_; clear hK K
  refine awp_if _ rfl (fun hc => ?_) (fun hc => ?_)
  · have hw0 := hc; clear hc
    have hj4 : j < 4 := by have := of_decide_eq_true hw0; omega
    have g1 : IntKind.wrap .u32 (8 * (j : Int)) = 8 * (j : Int) := wrapU (by omega) (by omega)
    have g2 : IntKind.wrap .u32 ((j : Int) + 1) = ((j + 1 : Nat) : Int) := by rw [wrapU (by omega) (by omega)]; omega
    have o1 := lnum_con (8 * (j : Int))
    have o2 := lop_con 13 (nameX [115]) (numX (8 * (j : Int)))
    have o3 := lput_con (opX 13 (nameX [115]) (numX (8 * (j : Int))))
    have o4 := outS_row j
    simp only [putS, opX, numX, nameX, Ex.row_eq, Sm.row_eq, List.map_cons, List.map_nil, Ex.kind, Ex.op, Ex.num, Ex.name, Ex.kids, Sm.kind, Sm.name, Sm.es, Sm.thn, Sm.els] at o1 o2 o3
    have hol : ([loopS m] ++ outs j).length ≤ 5 := by simp [outs]; omega
    have htk : ([loopS m] ++ outs (j + 1)).map Sm.row = ([loopS m] ++ outs j).map Sm.row ++ [(outS j).row] := by simp [outs, List.range_succ]
    rw [o4] at htk
    refine awp_skip ?_; try simp only [RR]
    refine awp_seq ?_
    refine awp_block ?_
    refine awp_region rfl ?_
    simp only [f2, f3, f4, f6, f7, hb4, hb5, nb5_b4, nb4_b5, nb4_b39, nb5_b39, nb39_b4, nb39_b5, e1, e2, e3, g1, g2, RR, seval]
    refine awpC_pure' (i1) ?_
    simp only [f2, f3, f4, f6, f7, hb4, hb5, nb5_b4, nb4_b5, nb4_b39, nb5_b39, nb39_b4, nb39_b5, e1, e2, e3, g1, g2, RR, seval]
    refine awpC_pure' (o1) ?_
    simp only [f2, f3, f4, f6, f7, hb4, hb5, nb5_b4, nb4_b5, nb4_b39, nb5_b39, nb39_b4, nb39_b5, e1, e2, e3, g1, g2, RR, seval]
    refine awpC_pure' (o2) ?_
    simp only [f2, f3, f4, f6, f7, hb4, hb5, nb5_b4, nb4_b5, nb4_b39, nb5_b39, nb39_b4, nb39_b5, e1, e2, e3, g1, g2, RR, seval]
    refine awpC_pure' (o3) ?_
    simp only [f2, f3, f4, f6, f7, hb4, hb5, nb5_b4, nb4_b5, nb4_b39, nb5_b39, nb39_b4, nb39_b5, e1, e2, e3, g1, g2, RR, seval]
    refine awpB_sealed ?_
    simp only [f2, f3, f4, f6, f7, hb4, hb5, nb5_b4, nb4_b5, nb4_b39, nb5_b39, nb39_b4, nb39_b5, e1, e2, e3, g1, g2, RR, seval]
    refine awpA_ownF hown (by simp only [List.length_map, List.length_cons, List.length_nil]; omega) (fun b e => by first | trivial | (repeat' apply And.intro) <;> (intro c; subst c; first | exact ho4 _ _ e | exact ho5 _ _ e )) fun v8 M4 hown' hk' hg' => ?_
    have ho4' := hg' b4 ho4 (by rw [hb4]; exact Option.some_ne_none _)
    have ho5' := hg' b5 ho5 (by rw [hb5]; exact Option.some_ne_none _)
    simp only [f2, f3, f4, f6, f7, hb4, hb5, nb5_b4, nb4_b5, nb4_b39, nb5_b39, nb39_b4, nb39_b5, e1, e2, e3, g1, g2, RR, seval]
    have gb4 := hk' b4 _ hb4 (by first | exact (hown).nb' hb4 (by decide) | exact ho4 _ _ | assumption | (intro e; simp_all))
    have e0_b4 := (gb4.trans hb4.symm).trans e0_b4
    have hb4 := gb4; clear gb4
    have gb5 := hk' b5 _ hb5 (by first | exact (hown).nb' hb5 (by decide) | exact ho5 _ _ | assumption | (intro e; simp_all))
    have e0_b5 := (gb5.trans hb5.symm).trans e0_b5
    have hb5 := gb5; clear gb5
    have hce := hown'.cells; have hoe := hown'.one1
    try simp only [hce, hoe, Option.bind_some, List.drop, f2, f3, f4, f6, f7, hb4, hb5, nb5_b4, nb4_b5, nb4_b39, nb5_b39, nb39_b4, nb39_b5, e1, e2, e3, g1, g2, RR, seval]
    refine awp_region rfl ?_
    simp only [f2, f3, f4, f6, f7, hb4, hb5, nb5_b4, nb4_b5, nb4_b39, nb5_b39, nb39_b4, nb39_b5, e1, e2, e3, g1, g2, RR, seval]
    refine hK0 (k - 1) _ _ (by omega) ⟨(by first | exact e0_b4 | (simp only [nb5_b4, nb4_b5, nb4_b39, nb5_b39, nb39_b4, nb39_b5, upd_app, seval]; first | done | exact e0_b4)), (by first | exact e0_b5 | (simp only [nb5_b4, nb4_b5, nb4_b39, nb5_b39, nb39_b4, nb39_b5, upd_app, seval]; first | done | exact e0_b5)), j + 1, by omega, by first | rfl | (simp only [upd_app, seval]; rfl), by rw [htk]; exact hown', ho4', ho5'⟩ (by repeat (first | exact ag0 | refine agree.upd rfl ?_))
  · have hw0 := hc; clear hc
    refine awp_exit ?_; simp only [RR, seval]
    refine awp_name fun F5 M5 hfr hH => ?_
    have g2 := hfr 2
    have g3 := hfr 3
    have g4 := hfr 4
    have g6 := hfr 6
    have gb4 := hH b4
    have gb5 := hH b5
    try simp only [f2, f3, f4, f6, f7, hb4, hb5, nb5_b4, nb4_b5, nb4_b39, nb5_b39, nb39_b4, nb39_b5, e1, e2, e3, RR, seval] at g2 g3 g4 g6 gb4 gb5
    have hown := hown.same hH
    have f2 := g2; clear g2
    have f3 := g3; clear g3
    have f4 := g4; clear g4
    have f6 := g6; clear g6
    have hb4 := gb4; clear gb4
    have hb5 := gb5; clear gb5
    clear hfr hH
    have hj4 : j = 4 := by have := of_decide_eq_false hw0; omega
    rw [hj4, hout'] at hown
    refine awp_seal2 (i := 6) (by rw [f6]; exact hown) fun F6 M6 hs hf' hk' => ?_
    have g2 := (hf' 2 (by decide) (by rw [f2]; first | exact apart_ptr _ _ _ _ _ | exact apart_int _ _ _ | exact apart_str _ _ | exact apart_isl _ _ _ | exact apart_bool _ _ | exact apart_bool' _ | exact apart_undef _ | exact apart_tup _ _ | exact apart_mp _ _ | assumption)).trans f2
    have g3 := (hf' 3 (by decide) (by rw [f3]; first | exact apart_ptr _ _ _ _ _ | exact apart_int _ _ _ | exact apart_str _ _ | exact apart_isl _ _ _ | exact apart_bool _ _ | exact apart_bool' _ | exact apart_undef _ | exact apart_tup _ _ | exact apart_mp _ _ | assumption)).trans f3
    have g4 := (hf' 4 (by decide) (by rw [f4]; first | exact apart_ptr _ _ _ _ _ | exact apart_int _ _ _ | exact apart_str _ _ | exact apart_isl _ _ _ | exact apart_bool _ _ | exact apart_bool' _ | exact apart_undef _ | exact apart_tup _ _ | exact apart_mp _ _ | assumption)).trans f4
    have g6 := hs
    have gb4 := hk' b4 _ hb4 (by rw [f6]; first | exact (hown).nb' hb4 (by decide) | exact ho4 _ _ | assumption | (intro e; simp_all))
    have hb4 := gb4; clear gb4
    have gb5 := hk' b5 _ hb5 (by rw [f6]; first | exact (hown).nb' hb5 (by decide) | exact ho5 _ _ | assumption | (intro e; simp_all))
    have hb5 := gb5; clear gb5
    have f2 := g2; clear g2
    have f3 := g3; clear g3
    have f4 := g4; clear g4
    have f6 := g6; clear g6
    clear hs hf' hk'
    refine awp_seq_k fun K hK => ?_
    refine awp_region rfl ?_
    simp only [f2, f3, f4, f6, hb4, hb5, nb5_b4, nb4_b5, nb4_b39, nb5_b39, nb39_b4, nb39_b5, e1, e2, e3, RR, seval]
    refine awpB_sealed ?_
    simp only [f2, f3, f4, f6, hb4, hb5, nb5_b4, nb4_b5, nb4_b39, nb5_b39, nb39_b4, nb39_b5, e1, e2, e3, RR, seval]
    refine awpB_sealed ?_
    simp only [f2, f3, f4, f6, hb4, hb5, nb5_b4, nb4_b5, nb4_b39, nb5_b39, nb39_b4, nb39_b5, e1, e2, e3, RR, seval]
    refine awpB_sealed ?_
    simp only [f2, f3, f4, f6, hb4, hb5, nb5_b4, nb4_b5, nb4_b39, nb5_b39, nb39_b4, nb39_b5, e1, e2, e3, RR, seval]
    refine awpN_intro fun b8 hn8 => ?_
    have nb8_b4 : b8 ≠ b4 := fun e => by rw [e] at hn8; simp only [f2, f3, f4, f6, hb4, hb5, nb5_b4, nb4_b5, nb4_b39, nb5_b39, nb39_b4, nb39_b5, e1, e2, e3, RR, seval, reduceCtorEq] at hn8
    have nb4_b8 : b4 ≠ b8 := fun e => nb8_b4 e.symm
    have nb8_b5 : b8 ≠ b5 := fun e => by rw [e] at hn8; simp only [f2, f3, f4, f6, hb4, hb5, nb5_b4, nb4_b5, nb4_b39, nb5_b39, nb39_b4, nb39_b5, e1, e2, e3, RR, seval, reduceCtorEq] at hn8
    have nb5_b8 : b5 ≠ b8 := fun e => nb8_b5 e.symm
    simp only [f2, f3, f4, f6, hb4, hb5, nb5_b4, nb4_b5, nb4_b39, nb5_b39, nb39_b4, nb39_b5, nb8_b4, nb4_b8, nb8_b5, nb5_b8, e1, e2, e3, RR, seval]
    refine hK _ _ ?_; clear hK K
    refine awp_seq_k fun K hK => ?_
    refine awp_region rfl ?_
    simp only [f2, f3, f4, f6, hb4, hb5, nb5_b4, nb4_b5, nb4_b39, nb5_b39, nb39_b4, nb39_b5, nb8_b4, nb4_b8, nb8_b5, nb5_b8, e1, e2, e3, RR, seval]
    refine awpC_pure hr (by refine SubR.list ?_; repeat' (first | exact SubR.nil | exact SubRs.nil | exact Sub.refl _ | exact Sub.nsl _ | refine SubR.cons ?_ ?_ | refine SubRs.cons ?_ ?_ | refine Sub.isl ?_ | refine Sub.aggR ?_)) ?_
    simp only [f2, f3, f4, f6, hb4, hb5, nb5_b4, nb4_b5, nb4_b39, nb5_b39, nb39_b4, nb39_b5, nb8_b4, nb4_b8, nb8_b5, nb5_b8, e1, e2, e3, RR, seval]
    refine awpN_intro fun b9 hn9 => ?_
    have nb9_b4 : b9 ≠ b4 := fun e => by rw [e] at hn9; simp only [f2, f3, f4, f6, hb4, hb5, nb5_b4, nb4_b5, nb4_b39, nb5_b39, nb39_b4, nb39_b5, nb8_b4, nb4_b8, nb8_b5, nb5_b8, e1, e2, e3, RR, seval, reduceCtorEq] at hn9
    have nb4_b9 : b4 ≠ b9 := fun e => nb9_b4 e.symm
    have nb9_b5 : b9 ≠ b5 := fun e => by rw [e] at hn9; simp only [f2, f3, f4, f6, hb4, hb5, nb5_b4, nb4_b5, nb4_b39, nb5_b39, nb39_b4, nb39_b5, nb8_b4, nb4_b8, nb8_b5, nb5_b8, e1, e2, e3, RR, seval, reduceCtorEq] at hn9
    have nb5_b9 : b5 ≠ b9 := fun e => nb9_b5 e.symm
    have nb9_b8 : b9 ≠ b8 := fun e => by rw [e] at hn9; simp only [f2, f3, f4, f6, hb4, hb5, nb5_b4, nb4_b5, nb4_b39, nb5_b39, nb39_b4, nb39_b5, nb8_b4, nb4_b8, nb8_b5, nb5_b8, e1, e2, e3, RR, seval, reduceCtorEq] at hn9
    have nb8_b9 : b8 ≠ b9 := fun e => nb9_b8 e.symm
    simp only [f2, f3, f4, f6, hb4, hb5, nb5_b4, nb4_b5, nb4_b39, nb5_b39, nb39_b4, nb39_b5, nb8_b4, nb4_b8, nb8_b5, nb5_b8, nb9_b4, nb4_b9, nb9_b5, nb5_b9, nb9_b8, nb8_b9, e1, e2, e3, RR, seval]
    refine hK _ _ ?_; clear hK K
    refine awp_seq_k fun K hK => ?_
    refine awp_region rfl ?_
    simp only [f2, f3, f4, f6, hb4, hb5, nb5_b4, nb4_b5, nb4_b39, nb5_b39, nb39_b4, nb39_b5, nb8_b4, nb4_b8, nb8_b5, nb5_b8, nb9_b4, nb4_b9, nb9_b5, nb5_b9, nb9_b8, nb8_b9, e1, e2, e3, RR, seval]
    refine hK _ _ ?_; clear hK K
    refine awp_seq_k fun K hK => ?_
    refine awp_region rfl ?_
    simp only [f2, f3, f4, f6, hb4, hb5, nb5_b4, nb4_b5, nb4_b39, nb5_b39, nb39_b4, nb39_b5, nb8_b4, nb4_b8, nb8_b5, nb5_b8, nb9_b4, nb4_b9, nb9_b5, nb5_b9, nb9_b8, nb8_b9, e1, e2, e3, RR, seval]
    refine awpB_sealed ?_
    simp only [f2, f3, f4, f6, hb4, hb5, nb5_b4, nb4_b5, nb4_b39, nb5_b39, nb39_b4, nb39_b5, nb8_b4, nb4_b8, nb8_b5, nb5_b8, nb9_b4, nb4_b9, nb9_b5, nb5_b9, nb9_b8, nb8_b9, e1, e2, e3, RR, seval]
    refine hK _ _ ?_; clear hK K
    refine awp_seq_k fun K hK => ?_
    refine awp_region rfl ?_
    simp only [f2, f3, f4, f6, hb4, hb5, nb5_b4, nb4_b5, nb4_b39, nb5_b39, nb39_b4, nb39_b5, nb8_b4, nb4_b8, nb8_b5, nb5_b8, nb9_b4, nb4_b9, nb9_b5, nb5_b9, nb9_b8, nb8_b9, e1, e2, e3, RR, seval]
    all_goals try (refine awpC_pure' (awake_con) ?_; simp only [f2, f3, f4, f6, hb4, hb5, nb5_b4, nb4_b5, nb4_b39, nb5_b39, nb39_b4, nb39_b5, nb8_b4, nb4_b8, nb8_b5, nb5_b8, nb9_b4, nb4_b9, nb9_b5, nb5_b9, nb9_b8, nb8_b9, e1, e2, e3, RR, seval])
    all_goals try ((first | refine awpG_splitN (fun h => ?_) (fun h => ?_) | refine awpG_split (fun h => ?_) (fun h => ?_)) <;> simp only [h, f2, f3, f4, f6, hb4, hb5, nb5_b4, nb4_b5, nb4_b39, nb5_b39, nb39_b4, nb39_b5, nb8_b4, nb4_b8, nb8_b5, nb5_b8, nb9_b4, nb4_b9, nb9_b5, nb5_b9, nb9_b8, nb8_b9, e1, e2, e3, RR, seval])
    all_goals
      refine hK _ _ ?_; clear hK K
      refine awp_ret ?_; simp only [bodyQ, aresult, ares, f2, f3, f4, f6, hb4, hb5, nb5_b4, nb4_b5, nb4_b39, nb5_b39, nb39_b4, nb39_b5, nb8_b4, nb4_b8, nb8_b5, nb5_b8, nb9_b4, nb4_b9, nb9_b5, nb5_b9, nb9_b8, nb8_b9, e1, e2, e3, RR, seval]
      refine Gives.pure ?_
      first | rfl | exact congrArg AV.bool (endB_true m hm)
end Go.Proofs.Ytlokndnkpleegaa
