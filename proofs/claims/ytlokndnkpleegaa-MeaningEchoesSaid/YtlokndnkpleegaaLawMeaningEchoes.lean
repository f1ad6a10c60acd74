/- Chapter 18: MeaningEchoes. -/
import Derived.Test.YtlokndnkpleegaaM18v
set_option linter.unusedSimpArgs false
set_option linter.unusedVariables false
set_option maxRecDepth 10000
namespace Go.Al
theorem getX_ok : getX.ok := .mk _ _ _ _ _ (by simp [i64R]) (by simp [i64R]) (by simp [u32R]) (by simp [fitL]) (by simp [fitL]) (fun e h => by cases h)
end Go.Al
namespace Go.Proofs.Ytlokndnkpleegaa
open Go.Al
theorem echo_ok : RunOk echoP := by
  have hn := nameX_ok (s := [97]) (by simp [fitL])
  have hg := setS_ok (s := [97]) (by simp [fitL]) getX_ok
  exact progP_ok (by simp [fitL]) (by decide) (okS_2 hg (whileS_ok (opX_ok (by simp [i64R]) hn (numX_ok (by simp [u32R]))) (okS_2 (putS_ok hn) hg))) (by simp [szS, Sm.sz, szE, Ex.sz, putS, whileS, opX, numX, getS', setS, getX, nameX, echoC, echoB])
set_option maxHeartbeats 4000000 in
theorem MeaningEchoes_con (inp : Str) (less : Int) (hless : 0 ≤ less ∧ less ≤ 255) : PCon env 6 [.str inp, .int .u8 less] (.bool true) := by
  by_cases h60 : inp.length ≤ 60
  · have d1 : decide (60 < (inp.length : Int)) = false := decide_eq_false (by omega)
    obtain ⟨m, hm⟩ := Int.eq_ofNat_of_zero_le hless.1
    subst hm
    have hl8 := hless.2
    have e1 : IntKind.wrap .i64 (m : Int) = (m : Int) := by rw [IntWalk.i64_in _ (by omega)]
    have e2 : IntKind.wrap .i64 ((inp.length : Int) + 1) = (inp.length : Int) + 1 := by rw [IntWalk.i64_in _ (by omega)]
    have e3 : (m : Int).tmod ((inp.length : Int) + 1) = ((m % (inp.length + 1) : Nat) : Int) := IntWalk.up_tmod rfl (by omega)
    have hk : m % (inp.length + 1) < inp.length + 1 := Nat.mod_lt _ (by omega)
    generalize m % (inp.length + 1) = k at e3 hk
    have hr1 := Run_con echoP echo_ok inp (by omega) ((inp.length : Int) + 1) ⟨by omega, by omega⟩ (echo_run1 inp h60)
    have hr2 := Run_con echoP echo_ok inp (by omega) (k : Int) ⟨by omega, by omega⟩ (echo_run2 inp k h60 (by omega))
    have e5 : ((inp.length + 1 : Nat) : Int) = (inp.length : Int) + 1 := by omega
    have e6 : (k : Int) ≤ (inp.length : Int) := by omega
    rw [show resV 1 inp (inp.length + 1) = .agg [.int .i64 1, .str inp, .int .i64 ((inp.length : Int) + 1)] from by rw [← e5]; rfl] at hr1
    have a1 := lset_con [97] getX
    have a2 := lname_con [97]
    have a3 := lnum_con 256
    have a4 := lop_con 14 (nameX [97]) (numX 256)
    have a5 := lput_con (nameX [97])
    have a6 := lwhile_con echoC echoB
    have a7 := lprog_con [97] [getS', whileS echoC echoB]
    obtain ⟨Y, hY⟩ : ∃ Y, echoP.funs.map Fu.row = Y := ⟨_, rfl⟩
    have hav : echoP.av = .agg [.isl 1 [[.str [97]]], .isl 2 [], .isl 5 Y] := by rw [← hY]; rfl
    rw [hav] at hr1 hr2
    rw [show progP [97] [getS', whileS echoC echoB] = echoP from rfl, hav] at a7
    clear hY hav
    simp only [echoP, echoC, echoB, getS', getX, progP, mainN, putS, setS, whileS, opX, numX, nameX, Pg.av, Pg.row, Fu.row, Ex.row_eq, Sm.row_eq, List.map_cons, List.map_nil, strRow, Ex.kind, Ex.op, Ex.num, Ex.name, Ex.kids, Sm.kind, Sm.name, Sm.es, Sm.thn, Sm.els, resV] at *
    refine con_of 62 [.tmp 4] Try.func6 rfl rfl rfl rfl ?_
    refine awp_seq_k fun K hK => ?_
    refine awp_region rfl ?_
    simp only [d1, e1, e2, e3, e6, RR, seval]
    refine hK _ _ ?_; clear hK K
    refine awp_seq ?_
    refine awp_seq_k fun K hK => ?_
    refine awp_region rfl ?_
    simp only [d1, e1, e2, e3, e6, RR, seval]
    refine hK _ _ ?_; clear hK K
    refine awp_if false rfl (fun hc => by cases hc) (fun _ => ?_)
    refine awp_skip ?_; try simp only [RR]
    refine awp_seq_k fun K hK => ?_
    refine awp_region rfl ?_
    simp only [d1, e1, e2, e3, e6, RR, seval]
    refine awpC_pure a1 (by refine SubR.list ?_; repeat' (first | exact SubR.nil | exact SubRs.nil | exact Sub.refl _ | exact Sub.nsl _ | refine SubR.cons ?_ ?_ | refine SubRs.cons ?_ ?_ | refine Sub.isl ?_ | refine Sub.aggR ?_)) ?_
    simp only [d1, e1, e2, e3, e6, RR, seval]
    refine awpN_intro fun b5 hn5 => ?_
    simp only [d1, e1, e2, e3, e6, RR, seval]
    refine hK _ _ ?_; clear hK K
    refine awp_seq_k fun K hK => ?_
    refine awp_cutP (fun fr M => ∃ b6, fr 0 = .str inp ∧ fr 1 = .int .u8 (m : Int) ∧ fr 6 = .ptr 3 b6 0 0 ∧ M b6 = some (.rows 3 [[.isl 1 [[.str [97]]], .isl 2 [], .isl 5 Y]])) (fun KR4 hKR4 => ?_) ?_
    · refine awp_region_any (fun x => x ≠ b5) draws (by kernel_rfl) fun hd => ?_
      refine any_plan [(0, 0), (6, 0)] hd (m := 11) rfl (by kernel_rfl) rfl rfl ?_
      simp only [emitF, markOf, touch_mp, touch_imp, touch_nmp, ne_eq, not_true_eq_false, and_false, false_and, not_false_eq_true, d1, e1, e2, e3, e6, RR, seval]
      refine any_branch hd (by kernel_rfl : Region.ready .any _ _ = [1, 11]) (by simp) ⟨?_, ?_, trivial⟩
      · simp only [emitF, markOf, touch_mp, touch_imp, touch_nmp, ne_eq, not_true_eq_false, and_false, false_and, not_false_eq_true, d1, e1, e2, e3, e6, RR, seval]
        refine awpC_pure' (a2) ?_
        simp only [emitF, markOf, touch_mp, touch_imp, touch_nmp, ne_eq, not_true_eq_false, and_false, false_and, not_false_eq_true, d1, e1, e2, e3, e6, RR, seval]
        refine any_branch hd (by kernel_rfl : Region.ready .any _ _ = [2, 11]) (by simp) ⟨?_, ?_, trivial⟩
        · simp only [emitF, markOf, touch_mp, touch_imp, touch_nmp, ne_eq, not_true_eq_false, and_false, false_and, not_false_eq_true, d1, e1, e2, e3, e6, RR, seval]
          refine awpC_pure' (a3) ?_
          simp only [emitF, markOf, touch_mp, touch_imp, touch_nmp, ne_eq, not_true_eq_false, and_false, false_and, not_false_eq_true, d1, e1, e2, e3, e6, RR, seval]
          refine any_branch hd (by kernel_rfl : Region.ready .any _ _ = [3, 11]) (by simp) ⟨?_, ?_, trivial⟩
          · simp only [emitF, markOf, touch_mp, touch_imp, touch_nmp, ne_eq, not_true_eq_false, and_false, false_and, not_false_eq_true, d1, e1, e2, e3, e6, RR, seval]
            refine awpC_pure' (a4) ?_
            simp only [emitF, markOf, touch_mp, touch_imp, touch_nmp, ne_eq, not_true_eq_false, and_false, false_and, not_false_eq_true, d1, e1, e2, e3, e6, RR, seval]
            refine any_branch hd (by kernel_rfl : Region.ready .any _ _ = [4, 11]) (by simp) ⟨?_, ?_, trivial⟩
            · simp only [emitF, markOf, touch_mp, touch_imp, touch_nmp, ne_eq, not_true_eq_false, and_false, false_and, not_false_eq_true, d1, e1, e2, e3, e6, RR, seval]
              refine awpC_pure' (a2) ?_
              simp only [emitF, markOf, touch_mp, touch_imp, touch_nmp, ne_eq, not_true_eq_false, and_false, false_and, not_false_eq_true, d1, e1, e2, e3, e6, RR, seval]
              refine any_branch hd (by kernel_rfl : Region.ready .any _ _ = [5, 11]) (by simp) ⟨?_, ?_, trivial⟩
              · simp only [emitF, markOf, touch_mp, touch_imp, touch_nmp, ne_eq, not_true_eq_false, and_false, false_and, not_false_eq_true, d1, e1, e2, e3, e6, RR, seval]
                refine awpC_pure' (a5) ?_
                simp only [emitF, markOf, touch_mp, touch_imp, touch_nmp, ne_eq, not_true_eq_false, and_false, false_and, not_false_eq_true, d1, e1, e2, e3, e6, RR, seval]
                refine any_plan [(7, 2)] hd (m := 5) rfl (by kernel_rfl) rfl rfl ?_
                simp only [emitF, markOf, touch_mp, touch_imp, touch_nmp, ne_eq, not_true_eq_false, and_false, false_and, not_false_eq_true, d1, e1, e2, e3, e6, RR, seval]
                refine any_branch hd (by kernel_rfl : Region.ready .any _ _ = [8, 11]) (by simp) ⟨?_, ?_, trivial⟩
                · simp only [emitF, markOf, touch_mp, touch_imp, touch_nmp, ne_eq, not_true_eq_false, and_false, false_and, not_false_eq_true, d1, e1, e2, e3, e6, RR, seval]
                  refine awpC_pure' (a6) ?_
                  simp only [emitF, markOf, touch_mp, touch_imp, touch_nmp, ne_eq, not_true_eq_false, and_false, false_and, not_false_eq_true, d1, e1, e2, e3, e6, RR, seval]
                  refine any_plan [(9, 2)] hd (m := 3) rfl (by kernel_rfl) rfl rfl ?_
                  simp only [emitF, markOf, touch_mp, touch_imp, touch_nmp, ne_eq, not_true_eq_false, and_false, false_and, not_false_eq_true, d1, e1, e2, e3, e6, RR, seval]
                  refine any_branch hd (by kernel_rfl : Region.ready .any _ _ = [10, 11]) (by simp) ⟨?_, ?_, trivial⟩
                  · simp only [emitF, markOf, touch_mp, touch_imp, touch_nmp, ne_eq, not_true_eq_false, and_false, false_and, not_false_eq_true, d1, e1, e2, e3, e6, RR, seval]
                    refine awpC_pure' (a7) ?_
                    simp only [emitF, markOf, touch_mp, touch_imp, touch_nmp, ne_eq, not_true_eq_false, and_false, false_and, not_false_eq_true, d1, e1, e2, e3, e6, RR, seval]
                    refine any_plan [(11, 1), (12, 1)] hd (m := 0) rfl (by kernel_rfl) rfl rfl ?_
                    simp only [emitF, markOf, touch_mp, touch_imp, touch_nmp, ne_eq, not_true_eq_false, and_false, false_and, not_false_eq_true, d1, e1, e2, e3, e6, RR, seval]
                    refine awpN_intro fun b6 hn6 => ?_
                    have nb6_b5 : b6 ≠ b5 := fun e => by rw [e] at hn6; simp only [d1, e1, e2, e3, e6, RR, seval, reduceCtorEq] at hn6
                    have nb5_b6 : b5 ≠ b6 := fun e => nb6_b5 e.symm
                    simp only [emitF, markOf, touch_mp, touch_imp, touch_nmp, ne_eq, not_true_eq_false, and_false, false_and, not_false_eq_true, nb6_b5, nb5_b6, d1, e1, e2, e3, e6, RR, seval]
                    refine any_done (by kernel_rfl) ?_
                    simp only [nb6_b5, nb5_b6, d1, e1, e2, e3, e6, RR, seval]
                    exact hKR4 _ _ ⟨b6, rfl, rfl, rfl, (by first | rfl | (simp only [nb6_b5, nb5_b6, d1, e1, e2, e3, e6, upd_app, RR, seval]; done) | (simp only [nb6_b5, nb5_b6, d1, e1, e2, e3, e6, upd_app, RR, seval]; rfl))⟩
                  · simp only [emitF, markOf, touch_mp, touch_imp, touch_nmp, ne_eq, not_true_eq_false, and_false, false_and, not_false_eq_true, d1, e1, e2, e3, e6, RR, seval]
                    refine awpN_intro fun b6 hn6 => ?_
                    have nb6_b5 : b6 ≠ b5 := fun e => by rw [e] at hn6; simp only [d1, e1, e2, e3, e6, RR, seval, reduceCtorEq] at hn6
                    have nb5_b6 : b5 ≠ b6 := fun e => nb6_b5 e.symm
                    simp only [emitF, markOf, touch_mp, touch_imp, touch_nmp, ne_eq, not_true_eq_false, and_false, false_and, not_false_eq_true, nb6_b5, nb5_b6, d1, e1, e2, e3, e6, RR, seval]
                    refine any_plan [(10, 1), (12, 1)] hd (m := 0) rfl (by kernel_rfl) rfl rfl ?_
                    simp only [emitF, markOf, touch_mp, touch_imp, touch_nmp, ne_eq, not_true_eq_false, and_false, false_and, not_false_eq_true, nb6_b5, nb5_b6, d1, e1, e2, e3, e6, RR, seval]
                    refine awpC_pure' (a7) ?_
                    simp only [emitF, markOf, touch_mp, touch_imp, touch_nmp, ne_eq, not_true_eq_false, and_false, false_and, not_false_eq_true, nb6_b5, nb5_b6, d1, e1, e2, e3, e6, RR, seval]
                    refine any_done (by kernel_rfl) ?_
                    simp only [nb6_b5, nb5_b6, d1, e1, e2, e3, e6, RR, seval]
                    exact hKR4 _ _ ⟨b6, rfl, rfl, rfl, (by first | rfl | (simp only [nb6_b5, nb5_b6, d1, e1, e2, e3, e6, upd_app, RR, seval]; done) | (simp only [nb6_b5, nb5_b6, d1, e1, e2, e3, e6, upd_app, RR, seval]; rfl))⟩
                · simp only [emitF, markOf, touch_mp, touch_imp, touch_nmp, ne_eq, not_true_eq_false, and_false, false_and, not_false_eq_true, d1, e1, e2, e3, e6, RR, seval]
                  refine awpN_intro fun b6 hn6 => ?_
                  have nb6_b5 : b6 ≠ b5 := fun e => by rw [e] at hn6; simp only [d1, e1, e2, e3, e6, RR, seval, reduceCtorEq] at hn6
                  have nb5_b6 : b5 ≠ b6 := fun e => nb6_b5 e.symm
                  simp only [emitF, markOf, touch_mp, touch_imp, touch_nmp, ne_eq, not_true_eq_false, and_false, false_and, not_false_eq_true, nb6_b5, nb5_b6, d1, e1, e2, e3, e6, RR, seval]
                  refine any_plan [(8, 1), (9, 2), (10, 1), (12, 1)] hd (m := 0) rfl (by kernel_rfl) rfl rfl ?_
                  simp only [emitF, markOf, touch_mp, touch_imp, touch_nmp, ne_eq, not_true_eq_false, and_false, false_and, not_false_eq_true, nb6_b5, nb5_b6, d1, e1, e2, e3, e6, RR, seval]
                  refine awpC_pure' (a6) ?_
                  simp only [emitF, markOf, touch_mp, touch_imp, touch_nmp, ne_eq, not_true_eq_false, and_false, false_and, not_false_eq_true, nb6_b5, nb5_b6, d1, e1, e2, e3, e6, RR, seval]
                  refine awpC_pure' (a7) ?_
                  simp only [emitF, markOf, touch_mp, touch_imp, touch_nmp, ne_eq, not_true_eq_false, and_false, false_and, not_false_eq_true, nb6_b5, nb5_b6, d1, e1, e2, e3, e6, RR, seval]
                  refine any_done (by kernel_rfl) ?_
                  simp only [nb6_b5, nb5_b6, d1, e1, e2, e3, e6, RR, seval]
                  exact hKR4 _ _ ⟨b6, rfl, rfl, rfl, (by first | rfl | (simp only [nb6_b5, nb5_b6, d1, e1, e2, e3, e6, upd_app, RR, seval]; done) | (simp only [nb6_b5, nb5_b6, d1, e1, e2, e3, e6, upd_app, RR, seval]; rfl))⟩
              · simp only [emitF, markOf, touch_mp, touch_imp, touch_nmp, ne_eq, not_true_eq_false, and_false, false_and, not_false_eq_true, d1, e1, e2, e3, e6, RR, seval]
                refine awpN_intro fun b6 hn6 => ?_
                have nb6_b5 : b6 ≠ b5 := fun e => by rw [e] at hn6; simp only [d1, e1, e2, e3, e6, RR, seval, reduceCtorEq] at hn6
                have nb5_b6 : b5 ≠ b6 := fun e => nb6_b5 e.symm
                simp only [emitF, markOf, touch_mp, touch_imp, touch_nmp, ne_eq, not_true_eq_false, and_false, false_and, not_false_eq_true, nb6_b5, nb5_b6, d1, e1, e2, e3, e6, RR, seval]
                refine any_plan [(5, 1), (7, 2), (8, 1), (9, 2), (10, 1), (12, 1)] hd (m := 0) rfl (by kernel_rfl) rfl rfl ?_
                simp only [emitF, markOf, touch_mp, touch_imp, touch_nmp, ne_eq, not_true_eq_false, and_false, false_and, not_false_eq_true, nb6_b5, nb5_b6, d1, e1, e2, e3, e6, RR, seval]
                refine awpC_pure' (a5) ?_
                simp only [emitF, markOf, touch_mp, touch_imp, touch_nmp, ne_eq, not_true_eq_false, and_false, false_and, not_false_eq_true, nb6_b5, nb5_b6, d1, e1, e2, e3, e6, RR, seval]
                refine awpC_pure' (a6) ?_
                simp only [emitF, markOf, touch_mp, touch_imp, touch_nmp, ne_eq, not_true_eq_false, and_false, false_and, not_false_eq_true, nb6_b5, nb5_b6, d1, e1, e2, e3, e6, RR, seval]
                refine awpC_pure' (a7) ?_
                simp only [emitF, markOf, touch_mp, touch_imp, touch_nmp, ne_eq, not_true_eq_false, and_false, false_and, not_false_eq_true, nb6_b5, nb5_b6, d1, e1, e2, e3, e6, RR, seval]
                refine any_done (by kernel_rfl) ?_
                simp only [nb6_b5, nb5_b6, d1, e1, e2, e3, e6, RR, seval]
                exact hKR4 _ _ ⟨b6, rfl, rfl, rfl, (by first | rfl | (simp only [nb6_b5, nb5_b6, d1, e1, e2, e3, e6, upd_app, RR, seval]; done) | (simp only [nb6_b5, nb5_b6, d1, e1, e2, e3, e6, upd_app, RR, seval]; rfl))⟩
            · simp only [emitF, markOf, touch_mp, touch_imp, touch_nmp, ne_eq, not_true_eq_false, and_false, false_and, not_false_eq_true, d1, e1, e2, e3, e6, RR, seval]
              refine awpN_intro fun b6 hn6 => ?_
              have nb6_b5 : b6 ≠ b5 := fun e => by rw [e] at hn6; simp only [d1, e1, e2, e3, e6, RR, seval, reduceCtorEq] at hn6
              have nb5_b6 : b5 ≠ b6 := fun e => nb6_b5 e.symm
              simp only [emitF, markOf, touch_mp, touch_imp, touch_nmp, ne_eq, not_true_eq_false, and_false, false_and, not_false_eq_true, nb6_b5, nb5_b6, d1, e1, e2, e3, e6, RR, seval]
              refine any_plan [(4, 1), (5, 1), (7, 2), (8, 1), (9, 2), (10, 1), (12, 1)] hd (m := 0) rfl (by kernel_rfl) rfl rfl ?_
              simp only [emitF, markOf, touch_mp, touch_imp, touch_nmp, ne_eq, not_true_eq_false, and_false, false_and, not_false_eq_true, nb6_b5, nb5_b6, d1, e1, e2, e3, e6, RR, seval]
              refine awpC_pure' (a2) ?_
              simp only [emitF, markOf, touch_mp, touch_imp, touch_nmp, ne_eq, not_true_eq_false, and_false, false_and, not_false_eq_true, nb6_b5, nb5_b6, d1, e1, e2, e3, e6, RR, seval]
              refine awpC_pure' (a5) ?_
              simp only [emitF, markOf, touch_mp, touch_imp, touch_nmp, ne_eq, not_true_eq_false, and_false, false_and, not_false_eq_true, nb6_b5, nb5_b6, d1, e1, e2, e3, e6, RR, seval]
              refine awpC_pure' (a6) ?_
              simp only [emitF, markOf, touch_mp, touch_imp, touch_nmp, ne_eq, not_true_eq_false, and_false, false_and, not_false_eq_true, nb6_b5, nb5_b6, d1, e1, e2, e3, e6, RR, seval]
              refine awpC_pure' (a7) ?_
              simp only [emitF, markOf, touch_mp, touch_imp, touch_nmp, ne_eq, not_true_eq_false, and_false, false_and, not_false_eq_true, nb6_b5, nb5_b6, d1, e1, e2, e3, e6, RR, seval]
              refine any_done (by kernel_rfl) ?_
              simp only [nb6_b5, nb5_b6, d1, e1, e2, e3, e6, RR, seval]
              exact hKR4 _ _ ⟨b6, rfl, rfl, rfl, (by first | rfl | (simp only [nb6_b5, nb5_b6, d1, e1, e2, e3, e6, upd_app, RR, seval]; done) | (simp only [nb6_b5, nb5_b6, d1, e1, e2, e3, e6, upd_app, RR, seval]; rfl))⟩
          · simp only [emitF, markOf, touch_mp, touch_imp, touch_nmp, ne_eq, not_true_eq_false, and_false, false_and, not_false_eq_true, d1, e1, e2, e3, e6, RR, seval]
            refine awpN_intro fun b6 hn6 => ?_
            have nb6_b5 : b6 ≠ b5 := fun e => by rw [e] at hn6; simp only [d1, e1, e2, e3, e6, RR, seval, reduceCtorEq] at hn6
            have nb5_b6 : b5 ≠ b6 := fun e => nb6_b5 e.symm
            simp only [emitF, markOf, touch_mp, touch_imp, touch_nmp, ne_eq, not_true_eq_false, and_false, false_and, not_false_eq_true, nb6_b5, nb5_b6, d1, e1, e2, e3, e6, RR, seval]
            refine any_plan [(3, 1), (4, 1), (5, 1), (7, 2), (8, 1), (9, 2), (10, 1), (12, 1)] hd (m := 0) rfl (by kernel_rfl) rfl rfl ?_
            simp only [emitF, markOf, touch_mp, touch_imp, touch_nmp, ne_eq, not_true_eq_false, and_false, false_and, not_false_eq_true, nb6_b5, nb5_b6, d1, e1, e2, e3, e6, RR, seval]
            refine awpC_pure' (a4) ?_
            simp only [emitF, markOf, touch_mp, touch_imp, touch_nmp, ne_eq, not_true_eq_false, and_false, false_and, not_false_eq_true, nb6_b5, nb5_b6, d1, e1, e2, e3, e6, RR, seval]
            refine awpC_pure' (a2) ?_
            simp only [emitF, markOf, touch_mp, touch_imp, touch_nmp, ne_eq, not_true_eq_false, and_false, false_and, not_false_eq_true, nb6_b5, nb5_b6, d1, e1, e2, e3, e6, RR, seval]
            refine awpC_pure' (a5) ?_
            simp only [emitF, markOf, touch_mp, touch_imp, touch_nmp, ne_eq, not_true_eq_false, and_false, false_and, not_false_eq_true, nb6_b5, nb5_b6, d1, e1, e2, e3, e6, RR, seval]
            refine awpC_pure' (a6) ?_
            simp only [emitF, markOf, touch_mp, touch_imp, touch_nmp, ne_eq, not_true_eq_false, and_false, false_and, not_false_eq_true, nb6_b5, nb5_b6, d1, e1, e2, e3, e6, RR, seval]
            refine awpC_pure' (a7) ?_
            simp only [emitF, markOf, touch_mp, touch_imp, touch_nmp, ne_eq, not_true_eq_false, and_false, false_and, not_false_eq_true, nb6_b5, nb5_b6, d1, e1, e2, e3, e6, RR, seval]
            refine any_done (by kernel_rfl) ?_
            simp only [nb6_b5, nb5_b6, d1, e1, e2, e3, e6, RR, seval]
            exact hKR4 _ _ ⟨b6, rfl, rfl, rfl, (by first | rfl | (simp only [nb6_b5, nb5_b6, d1, e1, e2, e3, e6, upd_app, RR, seval]; done) | (simp only [nb6_b5, nb5_b6, d1, e1, e2, e3, e6, upd_app, RR, seval]; rfl))⟩
        · simp only [emitF, markOf, touch_mp, touch_imp, touch_nmp, ne_eq, not_true_eq_false, and_false, false_and, not_false_eq_true, d1, e1, e2, e3, e6, RR, seval]
          refine awpN_intro fun b6 hn6 => ?_
          have nb6_b5 : b6 ≠ b5 := fun e => by rw [e] at hn6; simp only [d1, e1, e2, e3, e6, RR, seval, reduceCtorEq] at hn6
          have nb5_b6 : b5 ≠ b6 := fun e => nb6_b5 e.symm
          simp only [emitF, markOf, touch_mp, touch_imp, touch_nmp, ne_eq, not_true_eq_false, and_false, false_and, not_false_eq_true, nb6_b5, nb5_b6, d1, e1, e2, e3, e6, RR, seval]
          refine any_plan [(2, 1), (3, 1), (4, 1), (5, 1), (7, 2), (8, 1), (9, 2), (10, 1), (12, 1)] hd (m := 0) rfl (by kernel_rfl) rfl rfl ?_
          simp only [emitF, markOf, touch_mp, touch_imp, touch_nmp, ne_eq, not_true_eq_false, and_false, false_and, not_false_eq_true, nb6_b5, nb5_b6, d1, e1, e2, e3, e6, RR, seval]
          refine awpC_pure' (a3) ?_
          simp only [emitF, markOf, touch_mp, touch_imp, touch_nmp, ne_eq, not_true_eq_false, and_false, false_and, not_false_eq_true, nb6_b5, nb5_b6, d1, e1, e2, e3, e6, RR, seval]
          refine awpC_pure' (a4) ?_
          simp only [emitF, markOf, touch_mp, touch_imp, touch_nmp, ne_eq, not_true_eq_false, and_false, false_and, not_false_eq_true, nb6_b5, nb5_b6, d1, e1, e2, e3, e6, RR, seval]
          refine awpC_pure' (a2) ?_
          simp only [emitF, markOf, touch_mp, touch_imp, touch_nmp, ne_eq, not_true_eq_false, and_false, false_and, not_false_eq_true, nb6_b5, nb5_b6, d1, e1, e2, e3, e6, RR, seval]
          refine awpC_pure' (a5) ?_
          simp only [emitF, markOf, touch_mp, touch_imp, touch_nmp, ne_eq, not_true_eq_false, and_false, false_and, not_false_eq_true, nb6_b5, nb5_b6, d1, e1, e2, e3, e6, RR, seval]
          refine awpC_pure' (a6) ?_
          simp only [emitF, markOf, touch_mp, touch_imp, touch_nmp, ne_eq, not_true_eq_false, and_false, false_and, not_false_eq_true, nb6_b5, nb5_b6, d1, e1, e2, e3, e6, RR, seval]
          refine awpC_pure' (a7) ?_
          simp only [emitF, markOf, touch_mp, touch_imp, touch_nmp, ne_eq, not_true_eq_false, and_false, false_and, not_false_eq_true, nb6_b5, nb5_b6, d1, e1, e2, e3, e6, RR, seval]
          refine any_done (by kernel_rfl) ?_
          simp only [nb6_b5, nb5_b6, d1, e1, e2, e3, e6, RR, seval]
          exact hKR4 _ _ ⟨b6, rfl, rfl, rfl, (by first | rfl | (simp only [nb6_b5, nb5_b6, d1, e1, e2, e3, e6, upd_app, RR, seval]; done) | (simp only [nb6_b5, nb5_b6, d1, e1, e2, e3, e6, upd_app, RR, seval]; rfl))⟩
      · simp only [emitF, markOf, touch_mp, touch_imp, touch_nmp, ne_eq, not_true_eq_false, and_false, false_and, not_false_eq_true, d1, e1, e2, e3, e6, RR, seval]
        refine awpN_intro fun b6 hn6 => ?_
        have nb6_b5 : b6 ≠ b5 := fun e => by rw [e] at hn6; simp only [d1, e1, e2, e3, e6, RR, seval, reduceCtorEq] at hn6
        have nb5_b6 : b5 ≠ b6 := fun e => nb6_b5 e.symm
        simp only [emitF, markOf, touch_mp, touch_imp, touch_nmp, ne_eq, not_true_eq_false, and_false, false_and, not_false_eq_true, nb6_b5, nb5_b6, d1, e1, e2, e3, e6, RR, seval]
        refine any_plan [(1, 1), (2, 1), (3, 1), (4, 1), (5, 1), (7, 2), (8, 1), (9, 2), (10, 1), (12, 1)] hd (m := 0) rfl (by kernel_rfl) rfl rfl ?_
        simp only [emitF, markOf, touch_mp, touch_imp, touch_nmp, ne_eq, not_true_eq_false, and_false, false_and, not_false_eq_true, nb6_b5, nb5_b6, d1, e1, e2, e3, e6, RR, seval]
        refine awpC_pure' (a2) ?_
        simp only [emitF, markOf, touch_mp, touch_imp, touch_nmp, ne_eq, not_true_eq_false, and_false, false_and, not_false_eq_true, nb6_b5, nb5_b6, d1, e1, e2, e3, e6, RR, seval]
        refine awpC_pure' (a3) ?_
        simp only [emitF, markOf, touch_mp, touch_imp, touch_nmp, ne_eq, not_true_eq_false, and_false, false_and, not_false_eq_true, nb6_b5, nb5_b6, d1, e1, e2, e3, e6, RR, seval]
        refine awpC_pure' (a4) ?_
        simp only [emitF, markOf, touch_mp, touch_imp, touch_nmp, ne_eq, not_true_eq_false, and_false, false_and, not_false_eq_true, nb6_b5, nb5_b6, d1, e1, e2, e3, e6, RR, seval]
        refine awpC_pure' (a2) ?_
        simp only [emitF, markOf, touch_mp, touch_imp, touch_nmp, ne_eq, not_true_eq_false, and_false, false_and, not_false_eq_true, nb6_b5, nb5_b6, d1, e1, e2, e3, e6, RR, seval]
        refine awpC_pure' (a5) ?_
        simp only [emitF, markOf, touch_mp, touch_imp, touch_nmp, ne_eq, not_true_eq_false, and_false, false_and, not_false_eq_true, nb6_b5, nb5_b6, d1, e1, e2, e3, e6, RR, seval]
        refine awpC_pure' (a6) ?_
        simp only [emitF, markOf, touch_mp, touch_imp, touch_nmp, ne_eq, not_true_eq_false, and_false, false_and, not_false_eq_true, nb6_b5, nb5_b6, d1, e1, e2, e3, e6, RR, seval]
        refine awpC_pure' (a7) ?_
        simp only [emitF, markOf, touch_mp, touch_imp, touch_nmp, ne_eq, not_true_eq_false, and_false, false_and, not_false_eq_true, nb6_b5, nb5_b6, d1, e1, e2, e3, e6, RR, seval]
        refine any_done (by kernel_rfl) ?_
        simp only [nb6_b5, nb5_b6, d1, e1, e2, e3, e6, RR, seval]
        exact hKR4 _ _ ⟨b6, rfl, rfl, rfl, (by first | rfl | (simp only [nb6_b5, nb5_b6, d1, e1, e2, e3, e6, upd_app, RR, seval]; done) | (simp only [nb6_b5, nb5_b6, d1, e1, e2, e3, e6, upd_app, RR, seval]; rfl))⟩
    rintro F1 M1 ⟨b6, f0, f1, f6, hb6⟩
    simp only [thenQ_normal]
    refine hK _ _ ?_; clear hK K
    refine awp_seq_k fun K hK => ?_
    refine awp_region rfl ?_
    simp only [f0, f1, f6, hb6, d1, e1, e2, e3, e6, RR, seval]
    refine awpC_pure' (hr1) ?_
    simp only [f0, f1, f6, hb6, d1, e1, e2, e3, e6, RR, seval]
    refine awpN_intro fun b7 hn7 => ?_
    have nb7_b6 : b7 ≠ b6 := fun e => by rw [e] at hn7; simp only [f0, f1, f6, hb6, d1, e1, e2, e3, e6, RR, seval, reduceCtorEq] at hn7
    have nb6_b7 : b6 ≠ b7 := fun e => nb7_b6 e.symm
    simp only [f0, f1, f6, hb6, nb7_b6, nb6_b7, d1, e1, e2, e3, e6, RR, seval]
    refine hK _ _ ?_; clear hK K
    refine awp_seq_k fun K hK => ?_
    refine awp_region rfl ?_
    simp only [f0, f1, f6, hb6, nb7_b6, nb6_b7, d1, e1, e2, e3, e6, RR, seval]
    refine hK _ _ ?_; clear hK K
    refine awp_seq_k fun K hK => ?_
    refine awp_region rfl ?_
    simp only [f0, f1, f6, hb6, nb7_b6, nb6_b7, d1, e1, e2, e3, e6, RR, seval]
    refine awpC_pure' (hr2) ?_
    simp only [f0, f1, f6, hb6, nb7_b6, nb6_b7, d1, e1, e2, e3, e6, RR, seval]
    refine awpN_intro fun b9 hn9 => ?_
    have nb9_b6 : b9 ≠ b6 := fun e => by rw [e] at hn9; simp only [f0, f1, f6, hb6, nb7_b6, nb6_b7, d1, e1, e2, e3, e6, RR, seval, reduceCtorEq] at hn9
    have nb6_b9 : b6 ≠ b9 := fun e => nb9_b6 e.symm
    have nb9_b7 : b9 ≠ b7 := fun e => by rw [e] at hn9; simp only [f0, f1, f6, hb6, nb7_b6, nb6_b7, d1, e1, e2, e3, e6, RR, seval, reduceCtorEq] at hn9
    have nb7_b9 : b7 ≠ b9 := fun e => nb9_b7 e.symm
    simp only [f0, f1, f6, hb6, nb7_b6, nb6_b7, nb9_b6, nb6_b9, nb9_b7, nb7_b9, d1, e1, e2, e3, e6, RR, seval]
    refine hK _ _ ?_; clear hK K
    refine awp_seq_k fun K hK => ?_
    refine awp_region_draw2 (fun x => x ≠ b6 ∧ x ≠ b7 ∧ x ≠ b9) [(0, 1), (1, 3), (2, 1), (3, 3), (4, 3), (5, 3), (6, 3), (7, 3), (8, 3), (9, 3), (10, 3), (11, 1), (12, 3), (13, 3), (14, 3), (15, 3), (16, 3), (17, 3), (18, 3), (19, 3)] [] draws (by kernel_rfl) rfl rfl ?_
    simp only [emitF, markOf, touch_mp, touch_imp, touch_nmp, ne_eq, not_true_eq_false, and_false, false_and, not_false_eq_true, f0, f1, f6, hb6, nb7_b6, nb6_b7, nb9_b6, nb6_b9, nb9_b7, nb7_b9, d1, e1, e2, e3, e6, Nat.sub_zero, acells, Option.map_some, decide_true, Bool.and_self, Bool.and_true, RR, seval]
    all_goals try (refine awpC_pure' (awake_con) ?_; simp only [emitF, markOf, touch_mp, touch_imp, touch_nmp, ne_eq, not_true_eq_false, and_false, false_and, not_false_eq_true, f0, f1, f6, hb6, nb7_b6, nb6_b7, nb9_b6, nb6_b9, nb9_b7, nb7_b9, d1, e1, e2, e3, e6, Nat.sub_zero, acells, Option.map_some, decide_true, Bool.and_self, Bool.and_true, RR, seval])
    all_goals try ((first | refine awpG_splitN (fun h => ?_) (fun h => ?_) | refine awpG_split (fun h => ?_) (fun h => ?_)) <;> simp only [h, emitF, markOf, touch_mp, touch_imp, touch_nmp, ne_eq, not_true_eq_false, and_false, false_and, not_false_eq_true, f0, f1, f6, hb6, nb7_b6, nb6_b7, nb9_b6, nb6_b9, nb9_b7, nb7_b9, d1, e1, e2, e3, e6, Nat.sub_zero, acells, Option.map_some, decide_true, Bool.and_self, Bool.and_true, RR, seval])
    all_goals try ((first | refine awpG_splitN (fun h => ?_) (fun h => ?_) | refine awpG_split (fun h => ?_) (fun h => ?_)) <;> simp only [h, emitF, markOf, touch_mp, touch_imp, touch_nmp, ne_eq, not_true_eq_false, and_false, false_and, not_false_eq_true, f0, f1, f6, hb6, nb7_b6, nb6_b7, nb9_b6, nb6_b9, nb9_b7, nb7_b9, d1, e1, e2, e3, e6, Nat.sub_zero, acells, Option.map_some, decide_true, Bool.and_self, Bool.and_true, RR, seval])
    all_goals
      refine hK _ _ ?_; clear hK K
      refine awp_ret ?_; simp only [bodyQ, aresult, ares, f0, f1, f6, hb6, nb7_b6, nb6_b7, nb9_b6, nb6_b9, nb9_b7, nb7_b9, d1, e1, e2, e3, e6, Nat.sub_zero, acells, Option.map_some, decide_true, Bool.and_self, Bool.and_true, RR, seval]
      refine Gives.pure ?_
      rfl
  · have d1 : decide (60 < (inp.length : Int)) = true := decide_eq_true (by omega)
    refine con_of 62 [.tmp 4] Try.func6 rfl rfl rfl rfl ?_
    refine awp_seq_k fun K hK => ?_
    refine awp_region rfl ?_
    simp only [d1, RR, seval]
    refine hK _ _ ?_; clear hK K
    refine awp_seq ?_
    refine awp_seq_k fun K hK => ?_
    refine awp_region rfl ?_
    simp only [d1, RR, seval]
    refine hK _ _ ?_; clear hK K
    refine awp_if true rfl (fun _ => ?_) (fun hc => by cases hc)
    refine awp_seq_k fun K hK => ?_
    refine awp_region rfl ?_
    simp only [d1, RR, seval]
    refine awpC_pure' (awake_con) ?_
    simp only [d1, RR, seval]
    refine hK _ _ ?_; clear hK K
    refine awp_ret ?_; simp only [bodyQ, aresult, ares, d1, RR, seval]
    refine Gives.pure ?_
    rfl
end Go.Proofs.Ytlokndnkpleegaa
