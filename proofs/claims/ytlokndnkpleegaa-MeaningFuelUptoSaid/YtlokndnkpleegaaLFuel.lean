/- Chapter 18: MeaningFuel. -/
import Derived.Test.YtlokndnkpleegaaMz
import Derived.Test.YtlokndnkpleegaaMst
import Derived.Test.YtlokndnkpleegaaM18f
set_option linter.unusedSimpArgs false
set_option linter.unusedVariables false
set_option maxRecDepth 10000
namespace Go.Proofs.Ytlokndnkpleegaa
open Go.Al
theorem cxP_fuel (p : Pg) (inp : Str) (n : Nat) : (cxP p inp (n : Int)).fuel = n := by
  show (if (n : Int) < 0 then (0 : Int) else (n : Int)).toNat = n
  rw [if_neg (by omega)]; omega
set_option maxHeartbeats 4000000 in
theorem MeaningFuel_con (p : Pg) (hp : Bulk p) (inp : Str) (a b : Int) (ha : 0 ≤ a ∧ a ≤ 255) (hb : 0 ≤ b ∧ b ≤ 255) : PCon env 4 [p.av, .str inp, .agg [.int .u8 a, .int .u8 b]] (.bool true) := by
  have hsm := small_con p hp inp
  have hsf := fun h => small_few hp (inp := inp) h
  have hav : p.av = .agg p.row := rfl
  have hrow : p.row = [.isl 1 (p.vars.map strRow), .isl 2 (p.arrs.map Ar.row), .isl 5 (p.funs.map Fu.row)] := rfl
  cases hs : smallB p inp with
  | false =>
    rw [hs] at hsm
    rw [hav, hrow] at *
    refine con_of 78 [.tmp 6] Try.func4 rfl rfl rfl rfl ?_
    refine awp_seq_k fun K hK => ?_
    refine awp_region rfl ?_
    simp only [RR, seval]
    refine awpN_intro fun b3 hn3 => ?_
    simp only [RR, seval]
    refine awpN_intro fun b5 hn5 => ?_
    have nb5_b3 : b5 ≠ b3 := fun e => by rw [e] at hn5; simp only [RR, seval, reduceCtorEq] at hn5
    have nb3_b5 : b3 ≠ b5 := fun e => nb5_b3 e.symm
    simp only [nb5_b3, nb3_b5, RR, seval]
    refine hK _ _ ?_; clear hK K
    refine awp_seq ?_
    refine awp_seq_k fun K hK => ?_
    refine awp_region rfl ?_
    simp only [nb5_b3, nb3_b5, RR, seval]
    refine awpC_pure' (hsm) ?_
    simp only [nb5_b3, nb3_b5, RR, seval]
    refine hK _ _ ?_; clear hK K
    refine awp_if true rfl (fun _ => ?_) (fun hc => by cases hc)
    refine awp_seq_k fun K hK => ?_
    refine awp_region rfl ?_
    simp only [nb5_b3, nb3_b5, RR, seval]
    refine awpC_pure' (awake_con) ?_
    simp only [nb5_b3, nb3_b5, RR, seval]
    refine hK _ _ ?_; clear hK K
    refine awp_ret ?_; simp only [bodyQ, aresult, ares, nb5_b3, nb3_b5, RR, seval]
    refine Gives.pure ?_
    rfl
  | true =>
    rw [hs] at hsm
    obtain ⟨hf, h0, hin⟩ := hsf hs
    have hok := sound_ok hf h0
    obtain ⟨n, hn⟩ := Int.eq_ofNat_of_zero_le ha.1
    obtain ⟨m, hm⟩ := Int.eq_ofNat_of_zero_le hb.1
    subst hn; subst hm
    have ha2 := ha.2
    have hb2 := hb.2
    obtain ⟨k1, ⟨x1, o1, t1⟩, r1⟩ := sound_run h0 inp (n : Int)
    obtain ⟨k2, ⟨x2, o2, t2⟩, r2⟩ := sound_run h0 inp ((n + m : Nat) : Int)
    have hl := run_fuel (cx := cxP p inp (n : Int)) (cx' := cxP p inp ((n + m : Nat) : Int)) (by rw [cxP_fuel, cxP_fuel]; omega) rfl rfl r1 r2
    rw [cxP_fuel] at hl
    have c1 := Run_con p hok inp (by omega) (n : Int) ⟨by omega, by omega⟩ r1
    have c2 := Run_con p hok inp (by omega) ((n + m : Nat) : Int) ⟨by omega, by omega⟩ r2
    have e1 : IntKind.wrap .i64 (n : Int) = (n : Int) := by rw [IntWalk.i64_in _ (by omega)]
    have e2 : IntKind.wrap .i64 (m : Int) = (m : Int) := by rw [IntWalk.i64_in _ (by omega)]
    have e3 : IntKind.wrap .i64 ((n : Int) + (m : Int)) = ((n + m : Nat) : Int) := by rw [IntWalk.i64_in _ (by omega)]; omega
    clear r1 r2 hok hf h0 hsf
    simp only at hl
    rw [hav, hrow] at *
    simp only [resV] at c1 c2
    by_cases h5 : x1 = 5
    · subst h5
      obtain ⟨g1, g2, g3⟩ := hl.2.2 rfl
      subst g1
      obtain ⟨s, rfl⟩ := g2
      have q1 : (o1.length : Int) ≤ ((o1 ++ s).length : Int) := by rw [List.length_append]; omega
      have q2 : List.take o1.length (o1 ++ s) = o1 := List.take_left' rfl
      have q3 : decide ((o1.length : Int) ≤ ((o1 ++ s).length : Int)) = true := decide_eq_true q1
      have q4 : decide ((t1 : Int) ≤ (t2 : Int)) = true := decide_eq_true (by omega)
      clear hl
      generalize o1 ++ s = o2 at *
      refine con_of 78 [.tmp 6] Try.func4 rfl rfl rfl rfl ?_
      refine awp_seq_k fun K hK => ?_
      refine awp_region rfl ?_
      simp only [e1, e2, e3, RR, seval]
      refine awpN_intro fun b3 hn3 => ?_
      simp only [e1, e2, e3, RR, seval]
      refine awpN_intro fun b5 hn5 => ?_
      have nb5_b3 : b5 ≠ b3 := fun e => by rw [e] at hn5; simp only [e1, e2, e3, RR, seval, reduceCtorEq] at hn5
      have nb3_b5 : b3 ≠ b5 := fun e => nb5_b3 e.symm
      simp only [nb5_b3, nb3_b5, e1, e2, e3, RR, seval]
      refine hK _ _ ?_; clear hK K
      refine awp_seq ?_
      refine awp_seq_k fun K hK => ?_
      refine awp_region rfl ?_
      simp only [nb5_b3, nb3_b5, e1, e2, e3, RR, seval]
      refine awpC_pure' (hsm) ?_
      simp only [nb5_b3, nb3_b5, e1, e2, e3, RR, seval]
      refine hK _ _ ?_; clear hK K
      refine awp_if false rfl (fun hc => by cases hc) (fun _ => ?_)
      refine awp_skip ?_; try simp only [RR]
      refine awp_seq_k fun K hK => ?_
      refine awp_region rfl ?_
      simp only [nb5_b3, nb3_b5, e1, e2, e3, RR, seval]
      refine hK _ _ ?_; clear hK K
      refine awp_seq_k fun K hK => ?_
      refine awp_cutP (fun fr M => ∃ b8 b9, fr 1 = .str inp ∧ fr 7 = .int .i64 (t1 : Int) ∧ fr 8 = .ptr 3 b8 0 0 ∧ fr 9 = .ptr 3 b9 0 0 ∧ M b8 = some (.rows 3 [[.int .i64 5, .str o1, .int .i64 (t1 : Int)]]) ∧ M b9 = some (.rows 3 [[.int .i64 x2, .str o2, .int .i64 (t2 : Int)]])) (fun KR4 hKR4 => ?_) ?_
      · refine awp_region_any (fun x => x ≠ b3 ∧ x ≠ b5) draws (by kernel_rfl) fun hd => ?_
        refine any_plan [(0, 0), (1, 3), (2, 3), (4, 0), (5, 3), (6, 3), (7, 3), (8, 0), (9, 3), (10, 3)] hd (m := 6) rfl (by kernel_rfl) rfl rfl ?_
        simp only [emitF, markOf, touch_mp, touch_imp, touch_nmp, ne_eq, not_true_eq_false, and_false, false_and, not_false_eq_true, nb5_b3, nb3_b5, e1, e2, e3, RR, seval]
        refine any_branch hd (by kernel_rfl : Region.ready .any _ _ = [3, 12, 13]) (by simp) ⟨?_, ?_, ?_, trivial⟩
        · simp only [emitF, markOf, touch_mp, touch_imp, touch_nmp, ne_eq, not_true_eq_false, and_false, false_and, not_false_eq_true, nb5_b3, nb3_b5, e1, e2, e3, RR, seval]
          refine awpC_pure' (c1) ?_
          simp only [emitF, markOf, touch_mp, touch_imp, touch_nmp, ne_eq, not_true_eq_false, and_false, false_and, not_false_eq_true, nb5_b3, nb3_b5, e1, e2, e3, RR, seval]
          refine any_branch hd (by kernel_rfl : Region.ready .any _ _ = [11, 12, 13]) (by simp) ⟨?_, ?_, ?_, trivial⟩
          · simp only [emitF, markOf, touch_mp, touch_imp, touch_nmp, ne_eq, not_true_eq_false, and_false, false_and, not_false_eq_true, nb5_b3, nb3_b5, e1, e2, e3, RR, seval]
            refine awpC_pure' (c2) ?_
            simp only [emitF, markOf, touch_mp, touch_imp, touch_nmp, ne_eq, not_true_eq_false, and_false, false_and, not_false_eq_true, nb5_b3, nb3_b5, e1, e2, e3, RR, seval]
            refine any_branch hd (by kernel_rfl : Region.ready .any _ _ = [12, 13]) (by simp) ⟨?_, ?_, trivial⟩
            · simp only [emitF, markOf, touch_mp, touch_imp, touch_nmp, ne_eq, not_true_eq_false, and_false, false_and, not_false_eq_true, nb5_b3, nb3_b5, e1, e2, e3, RR, seval]
              refine awpN_intro fun b8 hn8 => ?_
              have nb8_b3 : b8 ≠ b3 := fun e => by rw [e] at hn8; simp only [nb5_b3, nb3_b5, e1, e2, e3, RR, seval, reduceCtorEq] at hn8
              have nb3_b8 : b3 ≠ b8 := fun e => nb8_b3 e.symm
              have nb8_b5 : b8 ≠ b5 := fun e => by rw [e] at hn8; simp only [nb5_b3, nb3_b5, e1, e2, e3, RR, seval, reduceCtorEq] at hn8
              have nb5_b8 : b5 ≠ b8 := fun e => nb8_b5 e.symm
              simp only [emitF, markOf, touch_mp, touch_imp, touch_nmp, ne_eq, not_true_eq_false, and_false, false_and, not_false_eq_true, nb5_b3, nb3_b5, nb8_b3, nb3_b8, nb8_b5, nb5_b8, e1, e2, e3, RR, seval]
              refine any_plan [(13, 1), (14, 1), (15, 1)] hd (m := 0) rfl (by kernel_rfl) rfl rfl ?_
              simp only [emitF, markOf, touch_mp, touch_imp, touch_nmp, ne_eq, not_true_eq_false, and_false, false_and, not_false_eq_true, nb5_b3, nb3_b5, nb8_b3, nb3_b8, nb8_b5, nb5_b8, e1, e2, e3, RR, seval]
              refine awpN_intro fun b9 hn9 => ?_
              have nb9_b3 : b9 ≠ b3 := fun e => by rw [e] at hn9; simp only [nb5_b3, nb3_b5, nb8_b3, nb3_b8, nb8_b5, nb5_b8, e1, e2, e3, RR, seval, reduceCtorEq] at hn9
              have nb3_b9 : b3 ≠ b9 := fun e => nb9_b3 e.symm
              have nb9_b5 : b9 ≠ b5 := fun e => by rw [e] at hn9; simp only [nb5_b3, nb3_b5, nb8_b3, nb3_b8, nb8_b5, nb5_b8, e1, e2, e3, RR, seval, reduceCtorEq] at hn9
              have nb5_b9 : b5 ≠ b9 := fun e => nb9_b5 e.symm
              have nb9_b8 : b9 ≠ b8 := fun e => by rw [e] at hn9; simp only [nb5_b3, nb3_b5, nb8_b3, nb3_b8, nb8_b5, nb5_b8, e1, e2, e3, RR, seval, reduceCtorEq] at hn9
              have nb8_b9 : b8 ≠ b9 := fun e => nb9_b8 e.symm
              simp only [emitF, markOf, touch_mp, touch_imp, touch_nmp, ne_eq, not_true_eq_false, and_false, false_and, not_false_eq_true, nb5_b3, nb3_b5, nb8_b3, nb3_b8, nb8_b5, nb5_b8, nb9_b3, nb3_b9, nb9_b5, nb5_b9, nb9_b8, nb8_b9, e1, e2, e3, RR, seval]
              refine any_done (by kernel_rfl) ?_
              simp only [nb5_b3, nb3_b5, nb8_b3, nb3_b8, nb8_b5, nb5_b8, nb9_b3, nb3_b9, nb9_b5, nb5_b9, nb9_b8, nb8_b9, e1, e2, e3, RR, seval]
              exact hKR4 _ _ ⟨b8, b9, rfl, rfl, rfl, rfl, (by first | rfl | (simp only [nb5_b3, nb3_b5, nb8_b3, nb3_b8, nb8_b5, nb5_b8, nb9_b3, nb3_b9, nb9_b5, nb5_b9, nb9_b8, nb8_b9, e1, e2, e3, upd_app, RR, seval]; done) | (simp only [nb5_b3, nb3_b5, nb8_b3, nb3_b8, nb8_b5, nb5_b8, nb9_b3, nb3_b9, nb9_b5, nb5_b9, nb9_b8, nb8_b9, e1, e2, e3, upd_app, RR, seval]; rfl)), (by first | rfl | (simp only [nb5_b3, nb3_b5, nb8_b3, nb3_b8, nb8_b5, nb5_b8, nb9_b3, nb3_b9, nb9_b5, nb5_b9, nb9_b8, nb8_b9, e1, e2, e3, upd_app, RR, seval]; done) | (simp only [nb5_b3, nb3_b5, nb8_b3, nb3_b8, nb8_b5, nb5_b8, nb9_b3, nb3_b9, nb9_b5, nb5_b9, nb9_b8, nb8_b9, e1, e2, e3, upd_app, RR, seval]; rfl))⟩
            · simp only [emitF, markOf, touch_mp, touch_imp, touch_nmp, ne_eq, not_true_eq_false, and_false, false_and, not_false_eq_true, nb5_b3, nb3_b5, e1, e2, e3, RR, seval]
              refine awpN_intro fun b9 hn9 => ?_
              have nb9_b3 : b9 ≠ b3 := fun e => by rw [e] at hn9; simp only [nb5_b3, nb3_b5, e1, e2, e3, RR, seval, reduceCtorEq] at hn9
              have nb3_b9 : b3 ≠ b9 := fun e => nb9_b3 e.symm
              have nb9_b5 : b9 ≠ b5 := fun e => by rw [e] at hn9; simp only [nb5_b3, nb3_b5, e1, e2, e3, RR, seval, reduceCtorEq] at hn9
              have nb5_b9 : b5 ≠ b9 := fun e => nb9_b5 e.symm
              simp only [emitF, markOf, touch_mp, touch_imp, touch_nmp, ne_eq, not_true_eq_false, and_false, false_and, not_false_eq_true, nb5_b3, nb3_b5, nb9_b3, nb3_b9, nb9_b5, nb5_b9, e1, e2, e3, RR, seval]
              refine any_plan [(12, 1), (14, 1), (15, 1)] hd (m := 0) rfl (by kernel_rfl) rfl rfl ?_
              simp only [emitF, markOf, touch_mp, touch_imp, touch_nmp, ne_eq, not_true_eq_false, and_false, false_and, not_false_eq_true, nb5_b3, nb3_b5, nb9_b3, nb3_b9, nb9_b5, nb5_b9, e1, e2, e3, RR, seval]
              refine awpN_intro fun b8 hn8 => ?_
              have nb8_b3 : b8 ≠ b3 := fun e => by rw [e] at hn8; simp only [nb5_b3, nb3_b5, nb9_b3, nb3_b9, nb9_b5, nb5_b9, e1, e2, e3, RR, seval, reduceCtorEq] at hn8
              have nb3_b8 : b3 ≠ b8 := fun e => nb8_b3 e.symm
              have nb8_b5 : b8 ≠ b5 := fun e => by rw [e] at hn8; simp only [nb5_b3, nb3_b5, nb9_b3, nb3_b9, nb9_b5, nb5_b9, e1, e2, e3, RR, seval, reduceCtorEq] at hn8
              have nb5_b8 : b5 ≠ b8 := fun e => nb8_b5 e.symm
              have nb8_b9 : b8 ≠ b9 := fun e => by rw [e] at hn8; simp only [nb5_b3, nb3_b5, nb9_b3, nb3_b9, nb9_b5, nb5_b9, e1, e2, e3, RR, seval, reduceCtorEq] at hn8
              have nb9_b8 : b9 ≠ b8 := fun e => nb8_b9 e.symm
              simp only [emitF, markOf, touch_mp, touch_imp, touch_nmp, ne_eq, not_true_eq_false, and_false, false_and, not_false_eq_true, nb5_b3, nb3_b5, nb9_b3, nb3_b9, nb9_b5, nb5_b9, nb8_b3, nb3_b8, nb8_b5, nb5_b8, nb8_b9, nb9_b8, e1, e2, e3, RR, seval]
              refine any_done (by kernel_rfl) ?_
              simp only [nb5_b3, nb3_b5, nb9_b3, nb3_b9, nb9_b5, nb5_b9, nb8_b3, nb3_b8, nb8_b5, nb5_b8, nb8_b9, nb9_b8, e1, e2, e3, RR, seval]
              exact hKR4 _ _ ⟨b8, b9, rfl, rfl, rfl, rfl, (by first | rfl | (simp only [nb5_b3, nb3_b5, nb9_b3, nb3_b9, nb9_b5, nb5_b9, nb8_b3, nb3_b8, nb8_b5, nb5_b8, nb8_b9, nb9_b8, e1, e2, e3, upd_app, RR, seval]; done) | (simp only [nb5_b3, nb3_b5, nb9_b3, nb3_b9, nb9_b5, nb5_b9, nb8_b3, nb3_b8, nb8_b5, nb5_b8, nb8_b9, nb9_b8, e1, e2, e3, upd_app, RR, seval]; rfl)), (by first | rfl | (simp only [nb5_b3, nb3_b5, nb9_b3, nb3_b9, nb9_b5, nb5_b9, nb8_b3, nb3_b8, nb8_b5, nb5_b8, nb8_b9, nb9_b8, e1, e2, e3, upd_app, RR, seval]; done) | (simp only [nb5_b3, nb3_b5, nb9_b3, nb3_b9, nb9_b5, nb5_b9, nb8_b3, nb3_b8, nb8_b5, nb5_b8, nb8_b9, nb9_b8, e1, e2, e3, upd_app, RR, seval]; rfl))⟩
          · simp only [emitF, markOf, touch_mp, touch_imp, touch_nmp, ne_eq, not_true_eq_false, and_false, false_and, not_false_eq_true, nb5_b3, nb3_b5, e1, e2, e3, RR, seval]
            refine awpN_intro fun b8 hn8 => ?_
            have nb8_b3 : b8 ≠ b3 := fun e => by rw [e] at hn8; simp only [nb5_b3, nb3_b5, e1, e2, e3, RR, seval, reduceCtorEq] at hn8
            have nb3_b8 : b3 ≠ b8 := fun e => nb8_b3 e.symm
            have nb8_b5 : b8 ≠ b5 := fun e => by rw [e] at hn8; simp only [nb5_b3, nb3_b5, e1, e2, e3, RR, seval, reduceCtorEq] at hn8
            have nb5_b8 : b5 ≠ b8 := fun e => nb8_b5 e.symm
            simp only [emitF, markOf, touch_mp, touch_imp, touch_nmp, ne_eq, not_true_eq_false, and_false, false_and, not_false_eq_true, nb5_b3, nb3_b5, nb8_b3, nb3_b8, nb8_b5, nb5_b8, e1, e2, e3, RR, seval]
            refine any_branch hd (by kernel_rfl : Region.ready .any _ _ = [11, 13]) (by simp) ⟨?_, ?_, trivial⟩
            · simp only [emitF, markOf, touch_mp, touch_imp, touch_nmp, ne_eq, not_true_eq_false, and_false, false_and, not_false_eq_true, nb5_b3, nb3_b5, nb8_b3, nb3_b8, nb8_b5, nb5_b8, e1, e2, e3, RR, seval]
              refine awpC_pure' (c2) ?_
              simp only [emitF, markOf, touch_mp, touch_imp, touch_nmp, ne_eq, not_true_eq_false, and_false, false_and, not_false_eq_true, nb5_b3, nb3_b5, nb8_b3, nb3_b8, nb8_b5, nb5_b8, e1, e2, e3, RR, seval]
              refine any_plan [(13, 1), (14, 1), (15, 1)] hd (m := 0) rfl (by kernel_rfl) rfl rfl ?_
              simp only [emitF, markOf, touch_mp, touch_imp, touch_nmp, ne_eq, not_true_eq_false, and_false, false_and, not_false_eq_true, nb5_b3, nb3_b5, nb8_b3, nb3_b8, nb8_b5, nb5_b8, e1, e2, e3, RR, seval]
              refine awpN_intro fun b9 hn9 => ?_
              have nb9_b3 : b9 ≠ b3 := fun e => by rw [e] at hn9; simp only [nb5_b3, nb3_b5, nb8_b3, nb3_b8, nb8_b5, nb5_b8, e1, e2, e3, RR, seval, reduceCtorEq] at hn9
              have nb3_b9 : b3 ≠ b9 := fun e => nb9_b3 e.symm
              have nb9_b5 : b9 ≠ b5 := fun e => by rw [e] at hn9; simp only [nb5_b3, nb3_b5, nb8_b3, nb3_b8, nb8_b5, nb5_b8, e1, e2, e3, RR, seval, reduceCtorEq] at hn9
              have nb5_b9 : b5 ≠ b9 := fun e => nb9_b5 e.symm
              have nb9_b8 : b9 ≠ b8 := fun e => by rw [e] at hn9; simp only [nb5_b3, nb3_b5, nb8_b3, nb3_b8, nb8_b5, nb5_b8, e1, e2, e3, RR, seval, reduceCtorEq] at hn9
              have nb8_b9 : b8 ≠ b9 := fun e => nb9_b8 e.symm
              simp only [emitF, markOf, touch_mp, touch_imp, touch_nmp, ne_eq, not_true_eq_false, and_false, false_and, not_false_eq_true, nb5_b3, nb3_b5, nb8_b3, nb3_b8, nb8_b5, nb5_b8, nb9_b3, nb3_b9, nb9_b5, nb5_b9, nb9_b8, nb8_b9, e1, e2, e3, RR, seval]
              refine any_done (by kernel_rfl) ?_
              simp only [nb5_b3, nb3_b5, nb8_b3, nb3_b8, nb8_b5, nb5_b8, nb9_b3, nb3_b9, nb9_b5, nb5_b9, nb9_b8, nb8_b9, e1, e2, e3, RR, seval]
              exact hKR4 _ _ ⟨b8, b9, rfl, rfl, rfl, rfl, (by first | rfl | (simp only [nb5_b3, nb3_b5, nb8_b3, nb3_b8, nb8_b5, nb5_b8, nb9_b3, nb3_b9, nb9_b5, nb5_b9, nb9_b8, nb8_b9, e1, e2, e3, upd_app, RR, seval]; done) | (simp only [nb5_b3, nb3_b5, nb8_b3, nb3_b8, nb8_b5, nb5_b8, nb9_b3, nb3_b9, nb9_b5, nb5_b9, nb9_b8, nb8_b9, e1, e2, e3, upd_app, RR, seval]; rfl)), (by first | rfl | (simp only [nb5_b3, nb3_b5, nb8_b3, nb3_b8, nb8_b5, nb5_b8, nb9_b3, nb3_b9, nb9_b5, nb5_b9, nb9_b8, nb8_b9, e1, e2, e3, upd_app, RR, seval]; done) | (simp only [nb5_b3, nb3_b5, nb8_b3, nb3_b8, nb8_b5, nb5_b8, nb9_b3, nb3_b9, nb9_b5, nb5_b9, nb9_b8, nb8_b9, e1, e2, e3, upd_app, RR, seval]; rfl))⟩
            · simp only [emitF, markOf, touch_mp, touch_imp, touch_nmp, ne_eq, not_true_eq_false, and_false, false_and, not_false_eq_true, nb5_b3, nb3_b5, nb8_b3, nb3_b8, nb8_b5, nb5_b8, e1, e2, e3, RR, seval]
              refine awpN_intro fun b9 hn9 => ?_
              have nb9_b3 : b9 ≠ b3 := fun e => by rw [e] at hn9; simp only [nb5_b3, nb3_b5, nb8_b3, nb3_b8, nb8_b5, nb5_b8, e1, e2, e3, RR, seval, reduceCtorEq] at hn9
              have nb3_b9 : b3 ≠ b9 := fun e => nb9_b3 e.symm
              have nb9_b5 : b9 ≠ b5 := fun e => by rw [e] at hn9; simp only [nb5_b3, nb3_b5, nb8_b3, nb3_b8, nb8_b5, nb5_b8, e1, e2, e3, RR, seval, reduceCtorEq] at hn9
              have nb5_b9 : b5 ≠ b9 := fun e => nb9_b5 e.symm
              have nb9_b8 : b9 ≠ b8 := fun e => by rw [e] at hn9; simp only [nb5_b3, nb3_b5, nb8_b3, nb3_b8, nb8_b5, nb5_b8, e1, e2, e3, RR, seval, reduceCtorEq] at hn9
              have nb8_b9 : b8 ≠ b9 := fun e => nb9_b8 e.symm
              simp only [emitF, markOf, touch_mp, touch_imp, touch_nmp, ne_eq, not_true_eq_false, and_false, false_and, not_false_eq_true, nb5_b3, nb3_b5, nb8_b3, nb3_b8, nb8_b5, nb5_b8, nb9_b3, nb3_b9, nb9_b5, nb5_b9, nb9_b8, nb8_b9, e1, e2, e3, RR, seval]
              refine any_plan [(11, 1), (14, 1), (15, 1)] hd (m := 0) rfl (by kernel_rfl) rfl rfl ?_
              simp only [emitF, markOf, touch_mp, touch_imp, touch_nmp, ne_eq, not_true_eq_false, and_false, false_and, not_false_eq_true, nb5_b3, nb3_b5, nb8_b3, nb3_b8, nb8_b5, nb5_b8, nb9_b3, nb3_b9, nb9_b5, nb5_b9, nb9_b8, nb8_b9, e1, e2, e3, RR, seval]
              refine awpC_pure' (c2) ?_
              simp only [emitF, markOf, touch_mp, touch_imp, touch_nmp, ne_eq, not_true_eq_false, and_false, false_and, not_false_eq_true, nb5_b3, nb3_b5, nb8_b3, nb3_b8, nb8_b5, nb5_b8, nb9_b3, nb3_b9, nb9_b5, nb5_b9, nb9_b8, nb8_b9, e1, e2, e3, RR, seval]
              refine any_done (by kernel_rfl) ?_
              simp only [nb5_b3, nb3_b5, nb8_b3, nb3_b8, nb8_b5, nb5_b8, nb9_b3, nb3_b9, nb9_b5, nb5_b9, nb9_b8, nb8_b9, e1, e2, e3, RR, seval]
              exact hKR4 _ _ ⟨b8, b9, rfl, rfl, rfl, rfl, (by first | rfl | (simp only [nb5_b3, nb3_b5, nb8_b3, nb3_b8, nb8_b5, nb5_b8, nb9_b3, nb3_b9, nb9_b5, nb5_b9, nb9_b8, nb8_b9, e1, e2, e3, upd_app, RR, seval]; done) | (simp only [nb5_b3, nb3_b5, nb8_b3, nb3_b8, nb8_b5, nb5_b8, nb9_b3, nb3_b9, nb9_b5, nb5_b9, nb9_b8, nb8_b9, e1, e2, e3, upd_app, RR, seval]; rfl)), (by first | rfl | (simp only [nb5_b3, nb3_b5, nb8_b3, nb3_b8, nb8_b5, nb5_b8, nb9_b3, nb3_b9, nb9_b5, nb5_b9, nb9_b8, nb8_b9, e1, e2, e3, upd_app, RR, seval]; done) | (simp only [nb5_b3, nb3_b5, nb8_b3, nb3_b8, nb8_b5, nb5_b8, nb9_b3, nb3_b9, nb9_b5, nb5_b9, nb9_b8, nb8_b9, e1, e2, e3, upd_app, RR, seval]; rfl))⟩
          · simp only [emitF, markOf, touch_mp, touch_imp, touch_nmp, ne_eq, not_true_eq_false, and_false, false_and, not_false_eq_true, nb5_b3, nb3_b5, e1, e2, e3, RR, seval]
            refine awpN_intro fun b9 hn9 => ?_
            have nb9_b3 : b9 ≠ b3 := fun e => by rw [e] at hn9; simp only [nb5_b3, nb3_b5, e1, e2, e3, RR, seval, reduceCtorEq] at hn9
            have nb3_b9 : b3 ≠ b9 := fun e => nb9_b3 e.symm
            have nb9_b5 : b9 ≠ b5 := fun e => by rw [e] at hn9; simp only [nb5_b3, nb3_b5, e1, e2, e3, RR, seval, reduceCtorEq] at hn9
            have nb5_b9 : b5 ≠ b9 := fun e => nb9_b5 e.symm
            simp only [emitF, markOf, touch_mp, touch_imp, touch_nmp, ne_eq, not_true_eq_false, and_false, false_and, not_false_eq_true, nb5_b3, nb3_b5, nb9_b3, nb3_b9, nb9_b5, nb5_b9, e1, e2, e3, RR, seval]
            refine any_branch hd (by kernel_rfl : Region.ready .any _ _ = [11, 12]) (by simp) ⟨?_, ?_, trivial⟩
            · simp only [emitF, markOf, touch_mp, touch_imp, touch_nmp, ne_eq, not_true_eq_false, and_false, false_and, not_false_eq_true, nb5_b3, nb3_b5, nb9_b3, nb3_b9, nb9_b5, nb5_b9, e1, e2, e3, RR, seval]
              refine awpC_pure' (c2) ?_
              simp only [emitF, markOf, touch_mp, touch_imp, touch_nmp, ne_eq, not_true_eq_false, and_false, false_and, not_false_eq_true, nb5_b3, nb3_b5, nb9_b3, nb3_b9, nb9_b5, nb5_b9, e1, e2, e3, RR, seval]
              refine any_plan [(12, 1), (14, 1), (15, 1)] hd (m := 0) rfl (by kernel_rfl) rfl rfl ?_
              simp only [emitF, markOf, touch_mp, touch_imp, touch_nmp, ne_eq, not_true_eq_false, and_false, false_and, not_false_eq_true, nb5_b3, nb3_b5, nb9_b3, nb3_b9, nb9_b5, nb5_b9, e1, e2, e3, RR, seval]
              refine awpN_intro fun b8 hn8 => ?_
              have nb8_b3 : b8 ≠ b3 := fun e => by rw [e] at hn8; simp only [nb5_b3, nb3_b5, nb9_b3, nb3_b9, nb9_b5, nb5_b9, e1, e2, e3, RR, seval, reduceCtorEq] at hn8
              have nb3_b8 : b3 ≠ b8 := fun e => nb8_b3 e.symm
              have nb8_b5 : b8 ≠ b5 := fun e => by rw [e] at hn8; simp only [nb5_b3, nb3_b5, nb9_b3, nb3_b9, nb9_b5, nb5_b9, e1, e2, e3, RR, seval, reduceCtorEq] at hn8
              have nb5_b8 : b5 ≠ b8 := fun e => nb8_b5 e.symm
              have nb8_b9 : b8 ≠ b9 := fun e => by rw [e] at hn8; simp only [nb5_b3, nb3_b5, nb9_b3, nb3_b9, nb9_b5, nb5_b9, e1, e2, e3, RR, seval, reduceCtorEq] at hn8
              have nb9_b8 : b9 ≠ b8 := fun e => nb8_b9 e.symm
              simp only [emitF, markOf, touch_mp, touch_imp, touch_nmp, ne_eq, not_true_eq_false, and_false, false_and, not_false_eq_true, nb5_b3, nb3_b5, nb9_b3, nb3_b9, nb9_b5, nb5_b9, nb8_b3, nb3_b8, nb8_b5, nb5_b8, nb8_b9, nb9_b8, e1, e2, e3, RR, seval]
              refine any_done (by kernel_rfl) ?_
              simp only [nb5_b3, nb3_b5, nb9_b3, nb3_b9, nb9_b5, nb5_b9, nb8_b3, nb3_b8, nb8_b5, nb5_b8, nb8_b9, nb9_b8, e1, e2, e3, RR, seval]
              exact hKR4 _ _ ⟨b8, b9, rfl, rfl, rfl, rfl, (by first | rfl | (simp only [nb5_b3, nb3_b5, nb9_b3, nb3_b9, nb9_b5, nb5_b9, nb8_b3, nb3_b8, nb8_b5, nb5_b8, nb8_b9, nb9_b8, e1, e2, e3, upd_app, RR, seval]; done) | (simp only [nb5_b3, nb3_b5, nb9_b3, nb3_b9, nb9_b5, nb5_b9, nb8_b3, nb3_b8, nb8_b5, nb5_b8, nb8_b9, nb9_b8, e1, e2, e3, upd_app, RR, seval]; rfl)), (by first | rfl | (simp only [nb5_b3, nb3_b5, nb9_b3, nb3_b9, nb9_b5, nb5_b9, nb8_b3, nb3_b8, nb8_b5, nb5_b8, nb8_b9, nb9_b8, e1, e2, e3, upd_app, RR, seval]; done) | (simp only [nb5_b3, nb3_b5, nb9_b3, nb3_b9, nb9_b5, nb5_b9, nb8_b3, nb3_b8, nb8_b5, nb5_b8, nb8_b9, nb9_b8, e1, e2, e3, upd_app, RR, seval]; rfl))⟩
            · simp only [emitF, markOf, touch_mp, touch_imp, touch_nmp, ne_eq, not_true_eq_false, and_false, false_and, not_false_eq_true, nb5_b3, nb3_b5, nb9_b3, nb3_b9, nb9_b5, nb5_b9, e1, e2, e3, RR, seval]
              refine awpN_intro fun b8 hn8 => ?_
              have nb8_b3 : b8 ≠ b3 := fun e => by rw [e] at hn8; simp only [nb5_b3, nb3_b5, nb9_b3, nb3_b9, nb9_b5, nb5_b9, e1, e2, e3, RR, seval, reduceCtorEq] at hn8
              have nb3_b8 : b3 ≠ b8 := fun e => nb8_b3 e.symm
              have nb8_b5 : b8 ≠ b5 := fun e => by rw [e] at hn8; simp only [nb5_b3, nb3_b5, nb9_b3, nb3_b9, nb9_b5, nb5_b9, e1, e2, e3, RR, seval, reduceCtorEq] at hn8
              have nb5_b8 : b5 ≠ b8 := fun e => nb8_b5 e.symm
              have nb8_b9 : b8 ≠ b9 := fun e => by rw [e] at hn8; simp only [nb5_b3, nb3_b5, nb9_b3, nb3_b9, nb9_b5, nb5_b9, e1, e2, e3, RR, seval, reduceCtorEq] at hn8
              have nb9_b8 : b9 ≠ b8 := fun e => nb8_b9 e.symm
              simp only [emitF, markOf, touch_mp, touch_imp, touch_nmp, ne_eq, not_true_eq_false, and_false, false_and, not_false_eq_true, nb5_b3, nb3_b5, nb9_b3, nb3_b9, nb9_b5, nb5_b9, nb8_b3, nb3_b8, nb8_b5, nb5_b8, nb8_b9, nb9_b8, e1, e2, e3, RR, seval]
              refine any_plan [(11, 1), (14, 1), (15, 1)] hd (m := 0) rfl (by kernel_rfl) rfl rfl ?_
              simp only [emitF, markOf, touch_mp, touch_imp, touch_nmp, ne_eq, not_true_eq_false, and_false, false_and, not_false_eq_true, nb5_b3, nb3_b5, nb9_b3, nb3_b9, nb9_b5, nb5_b9, nb8_b3, nb3_b8, nb8_b5, nb5_b8, nb8_b9, nb9_b8, e1, e2, e3, RR, seval]
              refine awpC_pure' (c2) ?_
              simp only [emitF, markOf, touch_mp, touch_imp, touch_nmp, ne_eq, not_true_eq_false, and_false, false_and, not_false_eq_true, nb5_b3, nb3_b5, nb9_b3, nb3_b9, nb9_b5, nb5_b9, nb8_b3, nb3_b8, nb8_b5, nb5_b8, nb8_b9, nb9_b8, e1, e2, e3, RR, seval]
              refine any_done (by kernel_rfl) ?_
              simp only [nb5_b3, nb3_b5, nb9_b3, nb3_b9, nb9_b5, nb5_b9, nb8_b3, nb3_b8, nb8_b5, nb5_b8, nb8_b9, nb9_b8, e1, e2, e3, RR, seval]
              exact hKR4 _ _ ⟨b8, b9, rfl, rfl, rfl, rfl, (by first | rfl | (simp only [nb5_b3, nb3_b5, nb9_b3, nb3_b9, nb9_b5, nb5_b9, nb8_b3, nb3_b8, nb8_b5, nb5_b8, nb8_b9, nb9_b8, e1, e2, e3, upd_app, RR, seval]; done) | (simp only [nb5_b3, nb3_b5, nb9_b3, nb3_b9, nb9_b5, nb5_b9, nb8_b3, nb3_b8, nb8_b5, nb5_b8, nb8_b9, nb9_b8, e1, e2, e3, upd_app, RR, seval]; rfl)), (by first | rfl | (simp only [nb5_b3, nb3_b5, nb9_b3, nb3_b9, nb9_b5, nb5_b9, nb8_b3, nb3_b8, nb8_b5, nb5_b8, nb8_b9, nb9_b8, e1, e2, e3, upd_app, RR, seval]; done) | (simp only [nb5_b3, nb3_b5, nb9_b3, nb3_b9, nb9_b5, nb5_b9, nb8_b3, nb3_b8, nb8_b5, nb5_b8, nb8_b9, nb9_b8, e1, e2, e3, upd_app, RR, seval]; rfl))⟩
        · simp only [emitF, markOf, touch_mp, touch_imp, touch_nmp, ne_eq, not_true_eq_false, and_false, false_and, not_false_eq_true, nb5_b3, nb3_b5, e1, e2, e3, RR, seval]
          refine awpN_intro fun b8 hn8 => ?_
          have nb8_b3 : b8 ≠ b3 := fun e => by rw [e] at hn8; simp only [nb5_b3, nb3_b5, e1, e2, e3, RR, seval, reduceCtorEq] at hn8
          have nb3_b8 : b3 ≠ b8 := fun e => nb8_b3 e.symm
          have nb8_b5 : b8 ≠ b5 := fun e => by rw [e] at hn8; simp only [nb5_b3, nb3_b5, e1, e2, e3, RR, seval, reduceCtorEq] at hn8
          have nb5_b8 : b5 ≠ b8 := fun e => nb8_b5 e.symm
          simp only [emitF, markOf, touch_mp, touch_imp, touch_nmp, ne_eq, not_true_eq_false, and_false, false_and, not_false_eq_true, nb5_b3, nb3_b5, nb8_b3, nb3_b8, nb8_b5, nb5_b8, e1, e2, e3, RR, seval]
          refine any_branch hd (by kernel_rfl : Region.ready .any _ _ = [3, 13]) (by simp) ⟨?_, ?_, trivial⟩
          · simp only [emitF, markOf, touch_mp, touch_imp, touch_nmp, ne_eq, not_true_eq_false, and_false, false_and, not_false_eq_true, nb5_b3, nb3_b5, nb8_b3, nb3_b8, nb8_b5, nb5_b8, e1, e2, e3, RR, seval]
            refine awpC_pure' (c1) ?_
            simp only [emitF, markOf, touch_mp, touch_imp, touch_nmp, ne_eq, not_true_eq_false, and_false, false_and, not_false_eq_true, nb5_b3, nb3_b5, nb8_b3, nb3_b8, nb8_b5, nb5_b8, e1, e2, e3, RR, seval]
            refine any_branch hd (by kernel_rfl : Region.ready .any _ _ = [11, 13]) (by simp) ⟨?_, ?_, trivial⟩
            · simp only [emitF, markOf, touch_mp, touch_imp, touch_nmp, ne_eq, not_true_eq_false, and_false, false_and, not_false_eq_true, nb5_b3, nb3_b5, nb8_b3, nb3_b8, nb8_b5, nb5_b8, e1, e2, e3, RR, seval]
              refine awpC_pure' (c2) ?_
              simp only [emitF, markOf, touch_mp, touch_imp, touch_nmp, ne_eq, not_true_eq_false, and_false, false_and, not_false_eq_true, nb5_b3, nb3_b5, nb8_b3, nb3_b8, nb8_b5, nb5_b8, e1, e2, e3, RR, seval]
              refine any_plan [(13, 1), (14, 1), (15, 1)] hd (m := 0) rfl (by kernel_rfl) rfl rfl ?_
              simp only [emitF, markOf, touch_mp, touch_imp, touch_nmp, ne_eq, not_true_eq_false, and_false, false_and, not_false_eq_true, nb5_b3, nb3_b5, nb8_b3, nb3_b8, nb8_b5, nb5_b8, e1, e2, e3, RR, seval]
              refine awpN_intro fun b9 hn9 => ?_
              have nb9_b3 : b9 ≠ b3 := fun e => by rw [e] at hn9; simp only [nb5_b3, nb3_b5, nb8_b3, nb3_b8, nb8_b5, nb5_b8, e1, e2, e3, RR, seval, reduceCtorEq] at hn9
              have nb3_b9 : b3 ≠ b9 := fun e => nb9_b3 e.symm
              have nb9_b5 : b9 ≠ b5 := fun e => by rw [e] at hn9; simp only [nb5_b3, nb3_b5, nb8_b3, nb3_b8, nb8_b5, nb5_b8, e1, e2, e3, RR, seval, reduceCtorEq] at hn9
              have nb5_b9 : b5 ≠ b9 := fun e => nb9_b5 e.symm
              have nb9_b8 : b9 ≠ b8 := fun e => by rw [e] at hn9; simp only [nb5_b3, nb3_b5, nb8_b3, nb3_b8, nb8_b5, nb5_b8, e1, e2, e3, RR, seval, reduceCtorEq] at hn9
              have nb8_b9 : b8 ≠ b9 := fun e => nb9_b8 e.symm
              simp only [emitF, markOf, touch_mp, touch_imp, touch_nmp, ne_eq, not_true_eq_false, and_false, false_and, not_false_eq_true, nb5_b3, nb3_b5, nb8_b3, nb3_b8, nb8_b5, nb5_b8, nb9_b3, nb3_b9, nb9_b5, nb5_b9, nb9_b8, nb8_b9, e1, e2, e3, RR, seval]
              refine any_done (by kernel_rfl) ?_
              simp only [nb5_b3, nb3_b5, nb8_b3, nb3_b8, nb8_b5, nb5_b8, nb9_b3, nb3_b9, nb9_b5, nb5_b9, nb9_b8, nb8_b9, e1, e2, e3, RR, seval]
              exact hKR4 _ _ ⟨b8, b9, rfl, rfl, rfl, rfl, (by first | rfl | (simp only [nb5_b3, nb3_b5, nb8_b3, nb3_b8, nb8_b5, nb5_b8, nb9_b3, nb3_b9, nb9_b5, nb5_b9, nb9_b8, nb8_b9, e1, e2, e3, upd_app, RR, seval]; done) | (simp only [nb5_b3, nb3_b5, nb8_b3, nb3_b8, nb8_b5, nb5_b8, nb9_b3, nb3_b9, nb9_b5, nb5_b9, nb9_b8, nb8_b9, e1, e2, e3, upd_app, RR, seval]; rfl)), (by first | rfl | (simp only [nb5_b3, nb3_b5, nb8_b3, nb3_b8, nb8_b5, nb5_b8, nb9_b3, nb3_b9, nb9_b5, nb5_b9, nb9_b8, nb8_b9, e1, e2, e3, upd_app, RR, seval]; done) | (simp only [nb5_b3, nb3_b5, nb8_b3, nb3_b8, nb8_b5, nb5_b8, nb9_b3, nb3_b9, nb9_b5, nb5_b9, nb9_b8, nb8_b9, e1, e2, e3, upd_app, RR, seval]; rfl))⟩
            · simp only [emitF, markOf, touch_mp, touch_imp, touch_nmp, ne_eq, not_true_eq_false, and_false, false_and, not_false_eq_true, nb5_b3, nb3_b5, nb8_b3, nb3_b8, nb8_b5, nb5_b8, e1, e2, e3, RR, seval]
              refine awpN_intro fun b9 hn9 => ?_
              have nb9_b3 : b9 ≠ b3 := fun e => by rw [e] at hn9; simp only [nb5_b3, nb3_b5, nb8_b3, nb3_b8, nb8_b5, nb5_b8, e1, e2, e3, RR, seval, reduceCtorEq] at hn9
              have nb3_b9 : b3 ≠ b9 := fun e => nb9_b3 e.symm
              have nb9_b5 : b9 ≠ b5 := fun e => by rw [e] at hn9; simp only [nb5_b3, nb3_b5, nb8_b3, nb3_b8, nb8_b5, nb5_b8, e1, e2, e3, RR, seval, reduceCtorEq] at hn9
              have nb5_b9 : b5 ≠ b9 := fun e => nb9_b5 e.symm
              have nb9_b8 : b9 ≠ b8 := fun e => by rw [e] at hn9; simp only [nb5_b3, nb3_b5, nb8_b3, nb3_b8, nb8_b5, nb5_b8, e1, e2, e3, RR, seval, reduceCtorEq] at hn9
              have nb8_b9 : b8 ≠ b9 := fun e => nb9_b8 e.symm
              simp only [emitF, markOf, touch_mp, touch_imp, touch_nmp, ne_eq, not_true_eq_false, and_false, false_and, not_false_eq_true, nb5_b3, nb3_b5, nb8_b3, nb3_b8, nb8_b5, nb5_b8, nb9_b3, nb3_b9, nb9_b5, nb5_b9, nb9_b8, nb8_b9, e1, e2, e3, RR, seval]
              refine any_plan [(11, 1), (14, 1), (15, 1)] hd (m := 0) rfl (by kernel_rfl) rfl rfl ?_
              simp only [emitF, markOf, touch_mp, touch_imp, touch_nmp, ne_eq, not_true_eq_false, and_false, false_and, not_false_eq_true, nb5_b3, nb3_b5, nb8_b3, nb3_b8, nb8_b5, nb5_b8, nb9_b3, nb3_b9, nb9_b5, nb5_b9, nb9_b8, nb8_b9, e1, e2, e3, RR, seval]
              refine awpC_pure' (c2) ?_
              simp only [emitF, markOf, touch_mp, touch_imp, touch_nmp, ne_eq, not_true_eq_false, and_false, false_and, not_false_eq_true, nb5_b3, nb3_b5, nb8_b3, nb3_b8, nb8_b5, nb5_b8, nb9_b3, nb3_b9, nb9_b5, nb5_b9, nb9_b8, nb8_b9, e1, e2, e3, RR, seval]
              refine any_done (by kernel_rfl) ?_
              simp only [nb5_b3, nb3_b5, nb8_b3, nb3_b8, nb8_b5, nb5_b8, nb9_b3, nb3_b9, nb9_b5, nb5_b9, nb9_b8, nb8_b9, e1, e2, e3, RR, seval]
              exact hKR4 _ _ ⟨b8, b9, rfl, rfl, rfl, rfl, (by first | rfl | (simp only [nb5_b3, nb3_b5, nb8_b3, nb3_b8, nb8_b5, nb5_b8, nb9_b3, nb3_b9, nb9_b5, nb5_b9, nb9_b8, nb8_b9, e1, e2, e3, upd_app, RR, seval]; done) | (simp only [nb5_b3, nb3_b5, nb8_b3, nb3_b8, nb8_b5, nb5_b8, nb9_b3, nb3_b9, nb9_b5, nb5_b9, nb9_b8, nb8_b9, e1, e2, e3, upd_app, RR, seval]; rfl)), (by first | rfl | (simp only [nb5_b3, nb3_b5, nb8_b3, nb3_b8, nb8_b5, nb5_b8, nb9_b3, nb3_b9, nb9_b5, nb5_b9, nb9_b8, nb8_b9, e1, e2, e3, upd_app, RR, seval]; done) | (simp only [nb5_b3, nb3_b5, nb8_b3, nb3_b8, nb8_b5, nb5_b8, nb9_b3, nb3_b9, nb9_b5, nb5_b9, nb9_b8, nb8_b9, e1, e2, e3, upd_app, RR, seval]; rfl))⟩
          · simp only [emitF, markOf, touch_mp, touch_imp, touch_nmp, ne_eq, not_true_eq_false, and_false, false_and, not_false_eq_true, nb5_b3, nb3_b5, nb8_b3, nb3_b8, nb8_b5, nb5_b8, e1, e2, e3, RR, seval]
            refine awpN_intro fun b9 hn9 => ?_
            have nb9_b3 : b9 ≠ b3 := fun e => by rw [e] at hn9; simp only [nb5_b3, nb3_b5, nb8_b3, nb3_b8, nb8_b5, nb5_b8, e1, e2, e3, RR, seval, reduceCtorEq] at hn9
            have nb3_b9 : b3 ≠ b9 := fun e => nb9_b3 e.symm
            have nb9_b5 : b9 ≠ b5 := fun e => by rw [e] at hn9; simp only [nb5_b3, nb3_b5, nb8_b3, nb3_b8, nb8_b5, nb5_b8, e1, e2, e3, RR, seval, reduceCtorEq] at hn9
            have nb5_b9 : b5 ≠ b9 := fun e => nb9_b5 e.symm
            have nb9_b8 : b9 ≠ b8 := fun e => by rw [e] at hn9; simp only [nb5_b3, nb3_b5, nb8_b3, nb3_b8, nb8_b5, nb5_b8, e1, e2, e3, RR, seval, reduceCtorEq] at hn9
            have nb8_b9 : b8 ≠ b9 := fun e => nb9_b8 e.symm
            simp only [emitF, markOf, touch_mp, touch_imp, touch_nmp, ne_eq, not_true_eq_false, and_false, false_and, not_false_eq_true, nb5_b3, nb3_b5, nb8_b3, nb3_b8, nb8_b5, nb5_b8, nb9_b3, nb3_b9, nb9_b5, nb5_b9, nb9_b8, nb8_b9, e1, e2, e3, RR, seval]
            refine any_plan [(3, 1), (11, 1), (14, 1), (15, 1)] hd (m := 0) rfl (by kernel_rfl) rfl rfl ?_
            simp only [emitF, markOf, touch_mp, touch_imp, touch_nmp, ne_eq, not_true_eq_false, and_false, false_and, not_false_eq_true, nb5_b3, nb3_b5, nb8_b3, nb3_b8, nb8_b5, nb5_b8, nb9_b3, nb3_b9, nb9_b5, nb5_b9, nb9_b8, nb8_b9, e1, e2, e3, RR, seval]
            refine awpC_pure' (c1) ?_
            simp only [emitF, markOf, touch_mp, touch_imp, touch_nmp, ne_eq, not_true_eq_false, and_false, false_and, not_false_eq_true, nb5_b3, nb3_b5, nb8_b3, nb3_b8, nb8_b5, nb5_b8, nb9_b3, nb3_b9, nb9_b5, nb5_b9, nb9_b8, nb8_b9, e1, e2, e3, RR, seval]
            refine awpC_pure' (c2) ?_
            simp only [emitF, markOf, touch_mp, touch_imp, touch_nmp, ne_eq, not_true_eq_false, and_false, false_and, not_false_eq_true, nb5_b3, nb3_b5, nb8_b3, nb3_b8, nb8_b5, nb5_b8, nb9_b3, nb3_b9, nb9_b5, nb5_b9, nb9_b8, nb8_b9, e1, e2, e3, RR, seval]
            refine any_done (by kernel_rfl) ?_
            simp only [nb5_b3, nb3_b5, nb8_b3, nb3_b8, nb8_b5, nb5_b8, nb9_b3, nb3_b9, nb9_b5, nb5_b9, nb9_b8, nb8_b9, e1, e2, e3, RR, seval]
            exact hKR4 _ _ ⟨b8, b9, rfl, rfl, rfl, rfl, (by first | rfl | (simp only [nb5_b3, nb3_b5, nb8_b3, nb3_b8, nb8_b5, nb5_b8, nb9_b3, nb3_b9, nb9_b5, nb5_b9, nb9_b8, nb8_b9, e1, e2, e3, upd_app, RR, seval]; done) | (simp only [nb5_b3, nb3_b5, nb8_b3, nb3_b8, nb8_b5, nb5_b8, nb9_b3, nb3_b9, nb9_b5, nb5_b9, nb9_b8, nb8_b9, e1, e2, e3, upd_app, RR, seval]; rfl)), (by first | rfl | (simp only [nb5_b3, nb3_b5, nb8_b3, nb3_b8, nb8_b5, nb5_b8, nb9_b3, nb3_b9, nb9_b5, nb5_b9, nb9_b8, nb8_b9, e1, e2, e3, upd_app, RR, seval]; done) | (simp only [nb5_b3, nb3_b5, nb8_b3, nb3_b8, nb8_b5, nb5_b8, nb9_b3, nb3_b9, nb9_b5, nb5_b9, nb9_b8, nb8_b9, e1, e2, e3, upd_app, RR, seval]; rfl))⟩
        · simp only [emitF, markOf, touch_mp, touch_imp, touch_nmp, ne_eq, not_true_eq_false, and_false, false_and, not_false_eq_true, nb5_b3, nb3_b5, e1, e2, e3, RR, seval]
          refine awpN_intro fun b9 hn9 => ?_
          have nb9_b3 : b9 ≠ b3 := fun e => by rw [e] at hn9; simp only [nb5_b3, nb3_b5, e1, e2, e3, RR, seval, reduceCtorEq] at hn9
          have nb3_b9 : b3 ≠ b9 := fun e => nb9_b3 e.symm
          have nb9_b5 : b9 ≠ b5 := fun e => by rw [e] at hn9; simp only [nb5_b3, nb3_b5, e1, e2, e3, RR, seval, reduceCtorEq] at hn9
          have nb5_b9 : b5 ≠ b9 := fun e => nb9_b5 e.symm
          simp only [emitF, markOf, touch_mp, touch_imp, touch_nmp, ne_eq, not_true_eq_false, and_false, false_and, not_false_eq_true, nb5_b3, nb3_b5, nb9_b3, nb3_b9, nb9_b5, nb5_b9, e1, e2, e3, RR, seval]
          refine any_branch hd (by kernel_rfl : Region.ready .any _ _ = [3, 12]) (by simp) ⟨?_, ?_, trivial⟩
          · simp only [emitF, markOf, touch_mp, touch_imp, touch_nmp, ne_eq, not_true_eq_false, and_false, false_and, not_false_eq_true, nb5_b3, nb3_b5, nb9_b3, nb3_b9, nb9_b5, nb5_b9, e1, e2, e3, RR, seval]
            refine awpC_pure' (c1) ?_
            simp only [emitF, markOf, touch_mp, touch_imp, touch_nmp, ne_eq, not_true_eq_false, and_false, false_and, not_false_eq_true, nb5_b3, nb3_b5, nb9_b3, nb3_b9, nb9_b5, nb5_b9, e1, e2, e3, RR, seval]
            refine any_branch hd (by kernel_rfl : Region.ready .any _ _ = [11, 12]) (by simp) ⟨?_, ?_, trivial⟩
            · simp only [emitF, markOf, touch_mp, touch_imp, touch_nmp, ne_eq, not_true_eq_false, and_false, false_and, not_false_eq_true, nb5_b3, nb3_b5, nb9_b3, nb3_b9, nb9_b5, nb5_b9, e1, e2, e3, RR, seval]
              refine awpC_pure' (c2) ?_
              simp only [emitF, markOf, touch_mp, touch_imp, touch_nmp, ne_eq, not_true_eq_false, and_false, false_and, not_false_eq_true, nb5_b3, nb3_b5, nb9_b3, nb3_b9, nb9_b5, nb5_b9, e1, e2, e3, RR, seval]
              refine any_plan [(12, 1), (14, 1), (15, 1)] hd (m := 0) rfl (by kernel_rfl) rfl rfl ?_
              simp only [emitF, markOf, touch_mp, touch_imp, touch_nmp, ne_eq, not_true_eq_false, and_false, false_and, not_false_eq_true, nb5_b3, nb3_b5, nb9_b3, nb3_b9, nb9_b5, nb5_b9, e1, e2, e3, RR, seval]
              refine awpN_intro fun b8 hn8 => ?_
              have nb8_b3 : b8 ≠ b3 := fun e => by rw [e] at hn8; simp only [nb5_b3, nb3_b5, nb9_b3, nb3_b9, nb9_b5, nb5_b9, e1, e2, e3, RR, seval, reduceCtorEq] at hn8
              have nb3_b8 : b3 ≠ b8 := fun e => nb8_b3 e.symm
              have nb8_b5 : b8 ≠ b5 := fun e => by rw [e] at hn8; simp only [nb5_b3, nb3_b5, nb9_b3, nb3_b9, nb9_b5, nb5_b9, e1, e2, e3, RR, seval, reduceCtorEq] at hn8
              have nb5_b8 : b5 ≠ b8 := fun e => nb8_b5 e.symm
              have nb8_b9 : b8 ≠ b9 := fun e => by rw [e] at hn8; simp only [nb5_b3, nb3_b5, nb9_b3, nb3_b9, nb9_b5, nb5_b9, e1, e2, e3, RR, seval, reduceCtorEq] at hn8
              have nb9_b8 : b9 ≠ b8 := fun e => nb8_b9 e.symm
              simp only [emitF, markOf, touch_mp, touch_imp, touch_nmp, ne_eq, not_true_eq_false, and_false, false_and, not_false_eq_true, nb5_b3, nb3_b5, nb9_b3, nb3_b9, nb9_b5, nb5_b9, nb8_b3, nb3_b8, nb8_b5, nb5_b8, nb8_b9, nb9_b8, e1, e2, e3, RR, seval]
              refine any_done (by kernel_rfl) ?_
              simp only [nb5_b3, nb3_b5, nb9_b3, nb3_b9, nb9_b5, nb5_b9, nb8_b3, nb3_b8, nb8_b5, nb5_b8, nb8_b9, nb9_b8, e1, e2, e3, RR, seval]
              exact hKR4 _ _ ⟨b8, b9, rfl, rfl, rfl, rfl, (by first | rfl | (simp only [nb5_b3, nb3_b5, nb9_b3, nb3_b9, nb9_b5, nb5_b9, nb8_b3, nb3_b8, nb8_b5, nb5_b8, nb8_b9, nb9_b8, e1, e2, e3, upd_app, RR, seval]; done) | (simp only [nb5_b3, nb3_b5, nb9_b3, nb3_b9, nb9_b5, nb5_b9, nb8_b3, nb3_b8, nb8_b5, nb5_b8, nb8_b9, nb9_b8, e1, e2, e3, upd_app, RR, seval]; rfl)), (by first | rfl | (simp only [nb5_b3, nb3_b5, nb9_b3, nb3_b9, nb9_b5, nb5_b9, nb8_b3, nb3_b8, nb8_b5, nb5_b8, nb8_b9, nb9_b8, e1, e2, e3, upd_app, RR, seval]; done) | (simp only [nb5_b3, nb3_b5, nb9_b3, nb3_b9, nb9_b5, nb5_b9, nb8_b3, nb3_b8, nb8_b5, nb5_b8, nb8_b9, nb9_b8, e1, e2, e3, upd_app, RR, seval]; rfl))⟩
            · simp only [emitF, markOf, touch_mp, touch_imp, touch_nmp, ne_eq, not_true_eq_false, and_false, false_and, not_false_eq_true, nb5_b3, nb3_b5, nb9_b3, nb3_b9, nb9_b5, nb5_b9, e1, e2, e3, RR, seval]
              refine awpN_intro fun b8 hn8 => ?_
              have nb8_b3 : b8 ≠ b3 := fun e => by rw [e] at hn8; simp only [nb5_b3, nb3_b5, nb9_b3, nb3_b9, nb9_b5, nb5_b9, e1, e2, e3, RR, seval, reduceCtorEq] at hn8
              have nb3_b8 : b3 ≠ b8 := fun e => nb8_b3 e.symm
              have nb8_b5 : b8 ≠ b5 := fun e => by rw [e] at hn8; simp only [nb5_b3, nb3_b5, nb9_b3, nb3_b9, nb9_b5, nb5_b9, e1, e2, e3, RR, seval, reduceCtorEq] at hn8
              have nb5_b8 : b5 ≠ b8 := fun e => nb8_b5 e.symm
              have nb8_b9 : b8 ≠ b9 := fun e => by rw [e] at hn8; simp only [nb5_b3, nb3_b5, nb9_b3, nb3_b9, nb9_b5, nb5_b9, e1, e2, e3, RR, seval, reduceCtorEq] at hn8
              have nb9_b8 : b9 ≠ b8 := fun e => nb8_b9 e.symm
              simp only [emitF, markOf, touch_mp, touch_imp, touch_nmp, ne_eq, not_true_eq_false, and_false, false_and, not_false_eq_true, nb5_b3, nb3_b5, nb9_b3, nb3_b9, nb9_b5, nb5_b9, nb8_b3, nb3_b8, nb8_b5, nb5_b8, nb8_b9, nb9_b8, e1, e2, e3, RR, seval]
              refine any_plan [(11, 1), (14, 1), (15, 1)] hd (m := 0) rfl (by kernel_rfl) rfl rfl ?_
              simp only [emitF, markOf, touch_mp, touch_imp, touch_nmp, ne_eq, not_true_eq_false, and_false, false_and, not_false_eq_true, nb5_b3, nb3_b5, nb9_b3, nb3_b9, nb9_b5, nb5_b9, nb8_b3, nb3_b8, nb8_b5, nb5_b8, nb8_b9, nb9_b8, e1, e2, e3, RR, seval]
              refine awpC_pure' (c2) ?_
              simp only [emitF, markOf, touch_mp, touch_imp, touch_nmp, ne_eq, not_true_eq_false, and_false, false_and, not_false_eq_true, nb5_b3, nb3_b5, nb9_b3, nb3_b9, nb9_b5, nb5_b9, nb8_b3, nb3_b8, nb8_b5, nb5_b8, nb8_b9, nb9_b8, e1, e2, e3, RR, seval]
              refine any_done (by kernel_rfl) ?_
              simp only [nb5_b3, nb3_b5, nb9_b3, nb3_b9, nb9_b5, nb5_b9, nb8_b3, nb3_b8, nb8_b5, nb5_b8, nb8_b9, nb9_b8, e1, e2, e3, RR, seval]
              exact hKR4 _ _ ⟨b8, b9, rfl, rfl, rfl, rfl, (by first | rfl | (simp only [nb5_b3, nb3_b5, nb9_b3, nb3_b9, nb9_b5, nb5_b9, nb8_b3, nb3_b8, nb8_b5, nb5_b8, nb8_b9, nb9_b8, e1, e2, e3, upd_app, RR, seval]; done) | (simp only [nb5_b3, nb3_b5, nb9_b3, nb3_b9, nb9_b5, nb5_b9, nb8_b3, nb3_b8, nb8_b5, nb5_b8, nb8_b9, nb9_b8, e1, e2, e3, upd_app, RR, seval]; rfl)), (by first | rfl | (simp only [nb5_b3, nb3_b5, nb9_b3, nb3_b9, nb9_b5, nb5_b9, nb8_b3, nb3_b8, nb8_b5, nb5_b8, nb8_b9, nb9_b8, e1, e2, e3, upd_app, RR, seval]; done) | (simp only [nb5_b3, nb3_b5, nb9_b3, nb3_b9, nb9_b5, nb5_b9, nb8_b3, nb3_b8, nb8_b5, nb5_b8, nb8_b9, nb9_b8, e1, e2, e3, upd_app, RR, seval]; rfl))⟩
          · simp only [emitF, markOf, touch_mp, touch_imp, touch_nmp, ne_eq, not_true_eq_false, and_false, false_and, not_false_eq_true, nb5_b3, nb3_b5, nb9_b3, nb3_b9, nb9_b5, nb5_b9, e1, e2, e3, RR, seval]
            refine awpN_intro fun b8 hn8 => ?_
            have nb8_b3 : b8 ≠ b3 := fun e => by rw [e] at hn8; simp only [nb5_b3, nb3_b5, nb9_b3, nb3_b9, nb9_b5, nb5_b9, e1, e2, e3, RR, seval, reduceCtorEq] at hn8
            have nb3_b8 : b3 ≠ b8 := fun e => nb8_b3 e.symm
            have nb8_b5 : b8 ≠ b5 := fun e => by rw [e] at hn8; simp only [nb5_b3, nb3_b5, nb9_b3, nb3_b9, nb9_b5, nb5_b9, e1, e2, e3, RR, seval, reduceCtorEq] at hn8
            have nb5_b8 : b5 ≠ b8 := fun e => nb8_b5 e.symm
            have nb8_b9 : b8 ≠ b9 := fun e => by rw [e] at hn8; simp only [nb5_b3, nb3_b5, nb9_b3, nb3_b9, nb9_b5, nb5_b9, e1, e2, e3, RR, seval, reduceCtorEq] at hn8
            have nb9_b8 : b9 ≠ b8 := fun e => nb8_b9 e.symm
            simp only [emitF, markOf, touch_mp, touch_imp, touch_nmp, ne_eq, not_true_eq_false, and_false, false_and, not_false_eq_true, nb5_b3, nb3_b5, nb9_b3, nb3_b9, nb9_b5, nb5_b9, nb8_b3, nb3_b8, nb8_b5, nb5_b8, nb8_b9, nb9_b8, e1, e2, e3, RR, seval]
            refine any_plan [(3, 1), (11, 1), (14, 1), (15, 1)] hd (m := 0) rfl (by kernel_rfl) rfl rfl ?_
            simp only [emitF, markOf, touch_mp, touch_imp, touch_nmp, ne_eq, not_true_eq_false, and_false, false_and, not_false_eq_true, nb5_b3, nb3_b5, nb9_b3, nb3_b9, nb9_b5, nb5_b9, nb8_b3, nb3_b8, nb8_b5, nb5_b8, nb8_b9, nb9_b8, e1, e2, e3, RR, seval]
            refine awpC_pure' (c1) ?_
            simp only [emitF, markOf, touch_mp, touch_imp, touch_nmp, ne_eq, not_true_eq_false, and_false, false_and, not_false_eq_true, nb5_b3, nb3_b5, nb9_b3, nb3_b9, nb9_b5, nb5_b9, nb8_b3, nb3_b8, nb8_b5, nb5_b8, nb8_b9, nb9_b8, e1, e2, e3, RR, seval]
            refine awpC_pure' (c2) ?_
            simp only [emitF, markOf, touch_mp, touch_imp, touch_nmp, ne_eq, not_true_eq_false, and_false, false_and, not_false_eq_true, nb5_b3, nb3_b5, nb9_b3, nb3_b9, nb9_b5, nb5_b9, nb8_b3, nb3_b8, nb8_b5, nb5_b8, nb8_b9, nb9_b8, e1, e2, e3, RR, seval]
            refine any_done (by kernel_rfl) ?_
            simp only [nb5_b3, nb3_b5, nb9_b3, nb3_b9, nb9_b5, nb5_b9, nb8_b3, nb3_b8, nb8_b5, nb5_b8, nb8_b9, nb9_b8, e1, e2, e3, RR, seval]
            exact hKR4 _ _ ⟨b8, b9, rfl, rfl, rfl, rfl, (by first | rfl | (simp only [nb5_b3, nb3_b5, nb9_b3, nb3_b9, nb9_b5, nb5_b9, nb8_b3, nb3_b8, nb8_b5, nb5_b8, nb8_b9, nb9_b8, e1, e2, e3, upd_app, RR, seval]; done) | (simp only [nb5_b3, nb3_b5, nb9_b3, nb3_b9, nb9_b5, nb5_b9, nb8_b3, nb3_b8, nb8_b5, nb5_b8, nb8_b9, nb9_b8, e1, e2, e3, upd_app, RR, seval]; rfl)), (by first | rfl | (simp only [nb5_b3, nb3_b5, nb9_b3, nb3_b9, nb9_b5, nb5_b9, nb8_b3, nb3_b8, nb8_b5, nb5_b8, nb8_b9, nb9_b8, e1, e2, e3, upd_app, RR, seval]; done) | (simp only [nb5_b3, nb3_b5, nb9_b3, nb3_b9, nb9_b5, nb5_b9, nb8_b3, nb3_b8, nb8_b5, nb5_b8, nb8_b9, nb9_b8, e1, e2, e3, upd_app, RR, seval]; rfl))⟩
      rintro F1 M1 ⟨b8, b9, f1, f7, f8, f9, hb8, hb9⟩
      simp only [thenQ_normal]
      refine hK _ _ ?_; clear hK K
      refine awp_seq ?_
      refine awp_seq_k fun K hK => ?_
      refine awp_region rfl ?_
      simp only [f1, f7, f8, f9, hb8, hb9, nb5_b3, nb3_b5, e1, e2, e3, RR, seval]
      refine hK _ _ ?_; clear hK K
      refine awp_if false rfl (fun hc => by cases hc) (fun _ => ?_)
      refine awp_skip ?_; try simp only [RR]
      refine awp_seq_k fun K hK => ?_
      refine awp_region_draw2 (fun x => x ≠ b8 ∧ x ≠ b9) [(0, 1), (1, 3), (2, 3), (3, 1), (4, 3), (5, 3), (6, 3), (7, 3), (8, 3), (9, 1), (10, 3), (11, 3), (12, 1), (13, 3), (14, 3), (15, 3), (16, 3), (17, 3), (18, 1), (19, 3), (20, 1), (21, 3), (22, 3), (23, 3), (24, 1), (25, 3), (26, 3), (27, 3), (28, 3), (29, 1), (30, 3), (31, 3), (32, 3), (33, 3)] [] draws (by kernel_rfl) rfl rfl ?_
      simp only [emitF, markOf, touch_mp, touch_imp, touch_nmp, ne_eq, not_true_eq_false, and_false, false_and, not_false_eq_true, f1, f7, f8, f9, hb8, hb9, nb5_b3, nb3_b5, e1, e2, e3, Nat.sub_zero, q1, q2, q3, q4, decide_true, RR, seval]
      all_goals try (refine awpC_pure' (awake_con) ?_; simp only [emitF, markOf, touch_mp, touch_imp, touch_nmp, ne_eq, not_true_eq_false, and_false, false_and, not_false_eq_true, f1, f7, f8, f9, hb8, hb9, nb5_b3, nb3_b5, e1, e2, e3, Nat.sub_zero, q1, q2, q3, q4, decide_true, RR, seval])
      all_goals try ((first | refine awpG_splitN (fun h => ?_) (fun h => ?_) | refine awpG_split (fun h => ?_) (fun h => ?_)) <;> simp only [h, emitF, markOf, touch_mp, touch_imp, touch_nmp, ne_eq, not_true_eq_false, and_false, false_and, not_false_eq_true, f1, f7, f8, f9, hb8, hb9, nb5_b3, nb3_b5, e1, e2, e3, Nat.sub_zero, q1, q2, q3, q4, decide_true, RR, seval])
      all_goals try ((first | refine awpG_splitN (fun h => ?_) (fun h => ?_) | refine awpG_split (fun h => ?_) (fun h => ?_)) <;> simp only [h, emitF, markOf, touch_mp, touch_imp, touch_nmp, ne_eq, not_true_eq_false, and_false, false_and, not_false_eq_true, f1, f7, f8, f9, hb8, hb9, nb5_b3, nb3_b5, e1, e2, e3, Nat.sub_zero, q1, q2, q3, q4, decide_true, RR, seval])
      all_goals try ((first | refine awpG_splitN (fun h => ?_) (fun h => ?_) | refine awpG_split (fun h => ?_) (fun h => ?_)) <;> simp only [h, emitF, markOf, touch_mp, touch_imp, touch_nmp, ne_eq, not_true_eq_false, and_false, false_and, not_false_eq_true, f1, f7, f8, f9, hb8, hb9, nb5_b3, nb3_b5, e1, e2, e3, Nat.sub_zero, q1, q2, q3, q4, decide_true, RR, seval])
      all_goals try ((first | refine awpG_splitN (fun h => ?_) (fun h => ?_) | refine awpG_split (fun h => ?_) (fun h => ?_)) <;> simp only [h, emitF, markOf, touch_mp, touch_imp, touch_nmp, ne_eq, not_true_eq_false, and_false, false_and, not_false_eq_true, f1, f7, f8, f9, hb8, hb9, nb5_b3, nb3_b5, e1, e2, e3, Nat.sub_zero, q1, q2, q3, q4, decide_true, RR, seval])
      all_goals
        refine hK _ _ ?_; clear hK K
        refine awp_ret ?_; simp only [bodyQ, aresult, ares, f1, f7, f8, f9, hb8, hb9, nb5_b3, nb3_b5, e1, e2, e3, Nat.sub_zero, q1, q2, q3, q4, decide_true, RR, seval]
        refine Gives.pure ?_
        rfl
    · have h2 := hl.2.1 h5
      have h1 := hl.1
      simp only [Prod.mk.injEq] at h2
      obtain ⟨rfl, rfl, rfl⟩ := h2
      have q3 : decide (x2 = 5) = false := decide_eq_false h5
      have q4 : decide ((t2 : Int) ≤ (n : Int)) = true := decide_eq_true (by omega)
      clear hl
      refine con_of 78 [.tmp 6] Try.func4 rfl rfl rfl rfl ?_
      refine awp_seq_k fun K hK => ?_
      refine awp_region rfl ?_
      simp only [e1, e2, e3, RR, seval]
      refine awpN_intro fun b3 hn3 => ?_
      simp only [e1, e2, e3, RR, seval]
      refine awpN_intro fun b5 hn5 => ?_
      have nb5_b3 : b5 ≠ b3 := fun e => by rw [e] at hn5; simp only [e1, e2, e3, RR, seval, reduceCtorEq] at hn5
      have nb3_b5 : b3 ≠ b5 := fun e => nb5_b3 e.symm
      simp only [nb5_b3, nb3_b5, e1, e2, e3, RR, seval]
      refine hK _ _ ?_; clear hK K
      refine awp_seq ?_
      refine awp_seq_k fun K hK => ?_
      refine awp_region rfl ?_
      simp only [nb5_b3, nb3_b5, e1, e2, e3, RR, seval]
      refine awpC_pure' (hsm) ?_
      simp only [nb5_b3, nb3_b5, e1, e2, e3, RR, seval]
      refine hK _ _ ?_; clear hK K
      refine awp_if false rfl (fun hc => by cases hc) (fun _ => ?_)
      refine awp_skip ?_; try simp only [RR]
      refine awp_seq_k fun K hK => ?_
      refine awp_region rfl ?_
      simp only [nb5_b3, nb3_b5, e1, e2, e3, RR, seval]
      refine hK _ _ ?_; clear hK K
      refine awp_seq_k fun K hK => ?_
      refine awp_cutP (fun fr M => ∃ b8 b9, fr 1 = .str inp ∧ fr 7 = .int .i64 (n : Int) ∧ fr 8 = .ptr 3 b8 0 0 ∧ fr 9 = .ptr 3 b9 0 0 ∧ M b8 = some (.rows 3 [[.int .i64 x2, .str o2, .int .i64 (t2 : Int)]]) ∧ M b9 = some (.rows 3 [[.int .i64 x2, .str o2, .int .i64 (t2 : Int)]])) (fun KR4 hKR4 => ?_) ?_
      · refine awp_region_any (fun x => x ≠ b3 ∧ x ≠ b5) draws (by kernel_rfl) fun hd => ?_
        refine any_plan [(0, 0), (1, 3), (2, 3), (4, 0), (5, 3), (6, 3), (7, 3), (8, 0), (9, 3), (10, 3)] hd (m := 6) rfl (by kernel_rfl) rfl rfl ?_
        simp only [emitF, markOf, touch_mp, touch_imp, touch_nmp, ne_eq, not_true_eq_false, and_false, false_and, not_false_eq_true, nb5_b3, nb3_b5, e1, e2, e3, RR, seval]
        refine any_branch hd (by kernel_rfl : Region.ready .any _ _ = [3, 12, 13]) (by simp) ⟨?_, ?_, ?_, trivial⟩
        · simp only [emitF, markOf, touch_mp, touch_imp, touch_nmp, ne_eq, not_true_eq_false, and_false, false_and, not_false_eq_true, nb5_b3, nb3_b5, e1, e2, e3, RR, seval]
          refine awpC_pure' (c1) ?_
          simp only [emitF, markOf, touch_mp, touch_imp, touch_nmp, ne_eq, not_true_eq_false, and_false, false_and, not_false_eq_true, nb5_b3, nb3_b5, e1, e2, e3, RR, seval]
          refine any_branch hd (by kernel_rfl : Region.ready .any _ _ = [11, 12, 13]) (by simp) ⟨?_, ?_, ?_, trivial⟩
          · simp only [emitF, markOf, touch_mp, touch_imp, touch_nmp, ne_eq, not_true_eq_false, and_false, false_and, not_false_eq_true, nb5_b3, nb3_b5, e1, e2, e3, RR, seval]
            refine awpC_pure' (c2) ?_
            simp only [emitF, markOf, touch_mp, touch_imp, touch_nmp, ne_eq, not_true_eq_false, and_false, false_and, not_false_eq_true, nb5_b3, nb3_b5, e1, e2, e3, RR, seval]
            refine any_branch hd (by kernel_rfl : Region.ready .any _ _ = [12, 13]) (by simp) ⟨?_, ?_, trivial⟩
            · simp only [emitF, markOf, touch_mp, touch_imp, touch_nmp, ne_eq, not_true_eq_false, and_false, false_and, not_false_eq_true, nb5_b3, nb3_b5, e1, e2, e3, RR, seval]
              refine awpN_intro fun b8 hn8 => ?_
              have nb8_b3 : b8 ≠ b3 := fun e => by rw [e] at hn8; simp only [nb5_b3, nb3_b5, e1, e2, e3, RR, seval, reduceCtorEq] at hn8
              have nb3_b8 : b3 ≠ b8 := fun e => nb8_b3 e.symm
              have nb8_b5 : b8 ≠ b5 := fun e => by rw [e] at hn8; simp only [nb5_b3, nb3_b5, e1, e2, e3, RR, seval, reduceCtorEq] at hn8
              have nb5_b8 : b5 ≠ b8 := fun e => nb8_b5 e.symm
              simp only [emitF, markOf, touch_mp, touch_imp, touch_nmp, ne_eq, not_true_eq_false, and_false, false_and, not_false_eq_true, nb5_b3, nb3_b5, nb8_b3, nb3_b8, nb8_b5, nb5_b8, e1, e2, e3, RR, seval]
              refine any_plan [(13, 1), (14, 1), (15, 1)] hd (m := 0) rfl (by kernel_rfl) rfl rfl ?_
              simp only [emitF, markOf, touch_mp, touch_imp, touch_nmp, ne_eq, not_true_eq_false, and_false, false_and, not_false_eq_true, nb5_b3, nb3_b5, nb8_b3, nb3_b8, nb8_b5, nb5_b8, e1, e2, e3, RR, seval]
              refine awpN_intro fun b9 hn9 => ?_
              have nb9_b3 : b9 ≠ b3 := fun e => by rw [e] at hn9; simp only [nb5_b3, nb3_b5, nb8_b3, nb3_b8, nb8_b5, nb5_b8, e1, e2, e3, RR, seval, reduceCtorEq] at hn9
              have nb3_b9 : b3 ≠ b9 := fun e => nb9_b3 e.symm
              have nb9_b5 : b9 ≠ b5 := fun e => by rw [e] at hn9; simp only [nb5_b3, nb3_b5, nb8_b3, nb3_b8, nb8_b5, nb5_b8, e1, e2, e3, RR, seval, reduceCtorEq] at hn9
              have nb5_b9 : b5 ≠ b9 := fun e => nb9_b5 e.symm
              have nb9_b8 : b9 ≠ b8 := fun e => by rw [e] at hn9; simp only [nb5_b3, nb3_b5, nb8_b3, nb3_b8, nb8_b5, nb5_b8, e1, e2, e3, RR, seval, reduceCtorEq] at hn9
              have nb8_b9 : b8 ≠ b9 := fun e => nb9_b8 e.symm
              simp only [emitF, markOf, touch_mp, touch_imp, touch_nmp, ne_eq, not_true_eq_false, and_false, false_and, not_false_eq_true, nb5_b3, nb3_b5, nb8_b3, nb3_b8, nb8_b5, nb5_b8, nb9_b3, nb3_b9, nb9_b5, nb5_b9, nb9_b8, nb8_b9, e1, e2, e3, RR, seval]
              refine any_done (by kernel_rfl) ?_
              simp only [nb5_b3, nb3_b5, nb8_b3, nb3_b8, nb8_b5, nb5_b8, nb9_b3, nb3_b9, nb9_b5, nb5_b9, nb9_b8, nb8_b9, e1, e2, e3, RR, seval]
              exact hKR4 _ _ ⟨b8, b9, rfl, rfl, rfl, rfl, (by first | rfl | (simp only [nb5_b3, nb3_b5, nb8_b3, nb3_b8, nb8_b5, nb5_b8, nb9_b3, nb3_b9, nb9_b5, nb5_b9, nb9_b8, nb8_b9, e1, e2, e3, upd_app, RR, seval]; done) | (simp only [nb5_b3, nb3_b5, nb8_b3, nb3_b8, nb8_b5, nb5_b8, nb9_b3, nb3_b9, nb9_b5, nb5_b9, nb9_b8, nb8_b9, e1, e2, e3, upd_app, RR, seval]; rfl)), (by first | rfl | (simp only [nb5_b3, nb3_b5, nb8_b3, nb3_b8, nb8_b5, nb5_b8, nb9_b3, nb3_b9, nb9_b5, nb5_b9, nb9_b8, nb8_b9, e1, e2, e3, upd_app, RR, seval]; done) | (simp only [nb5_b3, nb3_b5, nb8_b3, nb3_b8, nb8_b5, nb5_b8, nb9_b3, nb3_b9, nb9_b5, nb5_b9, nb9_b8, nb8_b9, e1, e2, e3, upd_app, RR, seval]; rfl))⟩
            · simp only [emitF, markOf, touch_mp, touch_imp, touch_nmp, ne_eq, not_true_eq_false, and_false, false_and, not_false_eq_true, nb5_b3, nb3_b5, e1, e2, e3, RR, seval]
              refine awpN_intro fun b9 hn9 => ?_
              have nb9_b3 : b9 ≠ b3 := fun e => by rw [e] at hn9; simp only [nb5_b3, nb3_b5, e1, e2, e3, RR, seval, reduceCtorEq] at hn9
              have nb3_b9 : b3 ≠ b9 := fun e => nb9_b3 e.symm
              have nb9_b5 : b9 ≠ b5 := fun e => by rw [e] at hn9; simp only [nb5_b3, nb3_b5, e1, e2, e3, RR, seval, reduceCtorEq] at hn9
              have nb5_b9 : b5 ≠ b9 := fun e => nb9_b5 e.symm
              simp only [emitF, markOf, touch_mp, touch_imp, touch_nmp, ne_eq, not_true_eq_false, and_false, false_and, not_false_eq_true, nb5_b3, nb3_b5, nb9_b3, nb3_b9, nb9_b5, nb5_b9, e1, e2, e3, RR, seval]
              refine any_plan [(12, 1), (14, 1), (15, 1)] hd (m := 0) rfl (by kernel_rfl) rfl rfl ?_
              simp only [emitF, markOf, touch_mp, touch_imp, touch_nmp, ne_eq, not_true_eq_false, and_false, false_and, not_false_eq_true, nb5_b3, nb3_b5, nb9_b3, nb3_b9, nb9_b5, nb5_b9, e1, e2, e3, RR, seval]
              refine awpN_intro fun b8 hn8 => ?_
              have nb8_b3 : b8 ≠ b3 := fun e => by rw [e] at hn8; simp only [nb5_b3, nb3_b5, nb9_b3, nb3_b9, nb9_b5, nb5_b9, e1, e2, e3, RR, seval, reduceCtorEq] at hn8
              have nb3_b8 : b3 ≠ b8 := fun e => nb8_b3 e.symm
              have nb8_b5 : b8 ≠ b5 := fun e => by rw [e] at hn8; simp only [nb5_b3, nb3_b5, nb9_b3, nb3_b9, nb9_b5, nb5_b9, e1, e2, e3, RR, seval, reduceCtorEq] at hn8
              have nb5_b8 : b5 ≠ b8 := fun e => nb8_b5 e.symm
              have nb8_b9 : b8 ≠ b9 := fun e => by rw [e] at hn8; simp only [nb5_b3, nb3_b5, nb9_b3, nb3_b9, nb9_b5, nb5_b9, e1, e2, e3, RR, seval, reduceCtorEq] at hn8
              have nb9_b8 : b9 ≠ b8 := fun e => nb8_b9 e.symm
              simp only [emitF, markOf, touch_mp, touch_imp, touch_nmp, ne_eq, not_true_eq_false, and_false, false_and, not_false_eq_true, nb5_b3, nb3_b5, nb9_b3, nb3_b9, nb9_b5, nb5_b9, nb8_b3, nb3_b8, nb8_b5, nb5_b8, nb8_b9, nb9_b8, e1, e2, e3, RR, seval]
              refine any_done (by kernel_rfl) ?_
              simp only [nb5_b3, nb3_b5, nb9_b3, nb3_b9, nb9_b5, nb5_b9, nb8_b3, nb3_b8, nb8_b5, nb5_b8, nb8_b9, nb9_b8, e1, e2, e3, RR, seval]
              exact hKR4 _ _ ⟨b8, b9, rfl, rfl, rfl, rfl, (by first | rfl | (simp only [nb5_b3, nb3_b5, nb9_b3, nb3_b9, nb9_b5, nb5_b9, nb8_b3, nb3_b8, nb8_b5, nb5_b8, nb8_b9, nb9_b8, e1, e2, e3, upd_app, RR, seval]; done) | (simp only [nb5_b3, nb3_b5, nb9_b3, nb3_b9, nb9_b5, nb5_b9, nb8_b3, nb3_b8, nb8_b5, nb5_b8, nb8_b9, nb9_b8, e1, e2, e3, upd_app, RR, seval]; rfl)), (by first | rfl | (simp only [nb5_b3, nb3_b5, nb9_b3, nb3_b9, nb9_b5, nb5_b9, nb8_b3, nb3_b8, nb8_b5, nb5_b8, nb8_b9, nb9_b8, e1, e2, e3, upd_app, RR, seval]; done) | (simp only [nb5_b3, nb3_b5, nb9_b3, nb3_b9, nb9_b5, nb5_b9, nb8_b3, nb3_b8, nb8_b5, nb5_b8, nb8_b9, nb9_b8, e1, e2, e3, upd_app, RR, seval]; rfl))⟩
          · simp only [emitF, markOf, touch_mp, touch_imp, touch_nmp, ne_eq, not_true_eq_false, and_false, false_and, not_false_eq_true, nb5_b3, nb3_b5, e1, e2, e3, RR, seval]
            refine awpN_intro fun b8 hn8 => ?_
            have nb8_b3 : b8 ≠ b3 := fun e => by rw [e] at hn8; simp only [nb5_b3, nb3_b5, e1, e2, e3, RR, seval, reduceCtorEq] at hn8
            have nb3_b8 : b3 ≠ b8 := fun e => nb8_b3 e.symm
            have nb8_b5 : b8 ≠ b5 := fun e => by rw [e] at hn8; simp only [nb5_b3, nb3_b5, e1, e2, e3, RR, seval, reduceCtorEq] at hn8
            have nb5_b8 : b5 ≠ b8 := fun e => nb8_b5 e.symm
            simp only [emitF, markOf, touch_mp, touch_imp, touch_nmp, ne_eq, not_true_eq_false, and_false, false_and, not_false_eq_true, nb5_b3, nb3_b5, nb8_b3, nb3_b8, nb8_b5, nb5_b8, e1, e2, e3, RR, seval]
            refine any_branch hd (by kernel_rfl : Region.ready .any _ _ = [11, 13]) (by simp) ⟨?_, ?_, trivial⟩
            · simp only [emitF, markOf, touch_mp, touch_imp, touch_nmp, ne_eq, not_true_eq_false, and_false, false_and, not_false_eq_true, nb5_b3, nb3_b5, nb8_b3, nb3_b8, nb8_b5, nb5_b8, e1, e2, e3, RR, seval]
              refine awpC_pure' (c2) ?_
              simp only [emitF, markOf, touch_mp, touch_imp, touch_nmp, ne_eq, not_true_eq_false, and_false, false_and, not_false_eq_true, nb5_b3, nb3_b5, nb8_b3, nb3_b8, nb8_b5, nb5_b8, e1, e2, e3, RR, seval]
              refine any_plan [(13, 1), (14, 1), (15, 1)] hd (m := 0) rfl (by kernel_rfl) rfl rfl ?_
              simp only [emitF, markOf, touch_mp, touch_imp, touch_nmp, ne_eq, not_true_eq_false, and_false, false_and, not_false_eq_true, nb5_b3, nb3_b5, nb8_b3, nb3_b8, nb8_b5, nb5_b8, e1, e2, e3, RR, seval]
              refine awpN_intro fun b9 hn9 => ?_
              have nb9_b3 : b9 ≠ b3 := fun e => by rw [e] at hn9; simp only [nb5_b3, nb3_b5, nb8_b3, nb3_b8, nb8_b5, nb5_b8, e1, e2, e3, RR, seval, reduceCtorEq] at hn9
              have nb3_b9 : b3 ≠ b9 := fun e => nb9_b3 e.symm
              have nb9_b5 : b9 ≠ b5 := fun e => by rw [e] at hn9; simp only [nb5_b3, nb3_b5, nb8_b3, nb3_b8, nb8_b5, nb5_b8, e1, e2, e3, RR, seval, reduceCtorEq] at hn9
              have nb5_b9 : b5 ≠ b9 := fun e => nb9_b5 e.symm
              have nb9_b8 : b9 ≠ b8 := fun e => by rw [e] at hn9; simp only [nb5_b3, nb3_b5, nb8_b3, nb3_b8, nb8_b5, nb5_b8, e1, e2, e3, RR, seval, reduceCtorEq] at hn9
              have nb8_b9 : b8 ≠ b9 := fun e => nb9_b8 e.symm
              simp only [emitF, markOf, touch_mp, touch_imp, touch_nmp, ne_eq, not_true_eq_false, and_false, false_and, not_false_eq_true, nb5_b3, nb3_b5, nb8_b3, nb3_b8, nb8_b5, nb5_b8, nb9_b3, nb3_b9, nb9_b5, nb5_b9, nb9_b8, nb8_b9, e1, e2, e3, RR, seval]
              refine any_done (by kernel_rfl) ?_
              simp only [nb5_b3, nb3_b5, nb8_b3, nb3_b8, nb8_b5, nb5_b8, nb9_b3, nb3_b9, nb9_b5, nb5_b9, nb9_b8, nb8_b9, e1, e2, e3, RR, seval]
              exact hKR4 _ _ ⟨b8, b9, rfl, rfl, rfl, rfl, (by first | rfl | (simp only [nb5_b3, nb3_b5, nb8_b3, nb3_b8, nb8_b5, nb5_b8, nb9_b3, nb3_b9, nb9_b5, nb5_b9, nb9_b8, nb8_b9, e1, e2, e3, upd_app, RR, seval]; done) | (simp only [nb5_b3, nb3_b5, nb8_b3, nb3_b8, nb8_b5, nb5_b8, nb9_b3, nb3_b9, nb9_b5, nb5_b9, nb9_b8, nb8_b9, e1, e2, e3, upd_app, RR, seval]; rfl)), (by first | rfl | (simp only [nb5_b3, nb3_b5, nb8_b3, nb3_b8, nb8_b5, nb5_b8, nb9_b3, nb3_b9, nb9_b5, nb5_b9, nb9_b8, nb8_b9, e1, e2, e3, upd_app, RR, seval]; done) | (simp only [nb5_b3, nb3_b5, nb8_b3, nb3_b8, nb8_b5, nb5_b8, nb9_b3, nb3_b9, nb9_b5, nb5_b9, nb9_b8, nb8_b9, e1, e2, e3, upd_app, RR, seval]; rfl))⟩
            · simp only [emitF, markOf, touch_mp, touch_imp, touch_nmp, ne_eq, not_true_eq_false, and_false, false_and, not_false_eq_true, nb5_b3, nb3_b5, nb8_b3, nb3_b8, nb8_b5, nb5_b8, e1, e2, e3, RR, seval]
              refine awpN_intro fun b9 hn9 => ?_
              have nb9_b3 : b9 ≠ b3 := fun e => by rw [e] at hn9; simp only [nb5_b3, nb3_b5, nb8_b3, nb3_b8, nb8_b5, nb5_b8, e1, e2, e3, RR, seval, reduceCtorEq] at hn9
              have nb3_b9 : b3 ≠ b9 := fun e => nb9_b3 e.symm
              have nb9_b5 : b9 ≠ b5 := fun e => by rw [e] at hn9; simp only [nb5_b3, nb3_b5, nb8_b3, nb3_b8, nb8_b5, nb5_b8, e1, e2, e3, RR, seval, reduceCtorEq] at hn9
              have nb5_b9 : b5 ≠ b9 := fun e => nb9_b5 e.symm
              have nb9_b8 : b9 ≠ b8 := fun e => by rw [e] at hn9; simp only [nb5_b3, nb3_b5, nb8_b3, nb3_b8, nb8_b5, nb5_b8, e1, e2, e3, RR, seval, reduceCtorEq] at hn9
              have nb8_b9 : b8 ≠ b9 := fun e => nb9_b8 e.symm
              simp only [emitF, markOf, touch_mp, touch_imp, touch_nmp, ne_eq, not_true_eq_false, and_false, false_and, not_false_eq_true, nb5_b3, nb3_b5, nb8_b3, nb3_b8, nb8_b5, nb5_b8, nb9_b3, nb3_b9, nb9_b5, nb5_b9, nb9_b8, nb8_b9, e1, e2, e3, RR, seval]
              refine any_plan [(11, 1), (14, 1), (15, 1)] hd (m := 0) rfl (by kernel_rfl) rfl rfl ?_
              simp only [emitF, markOf, touch_mp, touch_imp, touch_nmp, ne_eq, not_true_eq_false, and_false, false_and, not_false_eq_true, nb5_b3, nb3_b5, nb8_b3, nb3_b8, nb8_b5, nb5_b8, nb9_b3, nb3_b9, nb9_b5, nb5_b9, nb9_b8, nb8_b9, e1, e2, e3, RR, seval]
              refine awpC_pure' (c2) ?_
              simp only [emitF, markOf, touch_mp, touch_imp, touch_nmp, ne_eq, not_true_eq_false, and_false, false_and, not_false_eq_true, nb5_b3, nb3_b5, nb8_b3, nb3_b8, nb8_b5, nb5_b8, nb9_b3, nb3_b9, nb9_b5, nb5_b9, nb9_b8, nb8_b9, e1, e2, e3, RR, seval]
              refine any_done (by kernel_rfl) ?_
              simp only [nb5_b3, nb3_b5, nb8_b3, nb3_b8, nb8_b5, nb5_b8, nb9_b3, nb3_b9, nb9_b5, nb5_b9, nb9_b8, nb8_b9, e1, e2, e3, RR, seval]
              exact hKR4 _ _ ⟨b8, b9, rfl, rfl, rfl, rfl, (by first | rfl | (simp only [nb5_b3, nb3_b5, nb8_b3, nb3_b8, nb8_b5, nb5_b8, nb9_b3, nb3_b9, nb9_b5, nb5_b9, nb9_b8, nb8_b9, e1, e2, e3, upd_app, RR, seval]; done) | (simp only [nb5_b3, nb3_b5, nb8_b3, nb3_b8, nb8_b5, nb5_b8, nb9_b3, nb3_b9, nb9_b5, nb5_b9, nb9_b8, nb8_b9, e1, e2, e3, upd_app, RR, seval]; rfl)), (by first | rfl | (simp only [nb5_b3, nb3_b5, nb8_b3, nb3_b8, nb8_b5, nb5_b8, nb9_b3, nb3_b9, nb9_b5, nb5_b9, nb9_b8, nb8_b9, e1, e2, e3, upd_app, RR, seval]; done) | (simp only [nb5_b3, nb3_b5, nb8_b3, nb3_b8, nb8_b5, nb5_b8, nb9_b3, nb3_b9, nb9_b5, nb5_b9, nb9_b8, nb8_b9, e1, e2, e3, upd_app, RR, seval]; rfl))⟩
          · simp only [emitF, markOf, touch_mp, touch_imp, touch_nmp, ne_eq, not_true_eq_false, and_false, false_and, not_false_eq_true, nb5_b3, nb3_b5, e1, e2, e3, RR, seval]
            refine awpN_intro fun b9 hn9 => ?_
            have nb9_b3 : b9 ≠ b3 := fun e => by rw [e] at hn9; simp only [nb5_b3, nb3_b5, e1, e2, e3, RR, seval, reduceCtorEq] at hn9
            have nb3_b9 : b3 ≠ b9 := fun e => nb9_b3 e.symm
            have nb9_b5 : b9 ≠ b5 := fun e => by rw [e] at hn9; simp only [nb5_b3, nb3_b5, e1, e2, e3, RR, seval, reduceCtorEq] at hn9
            have nb5_b9 : b5 ≠ b9 := fun e => nb9_b5 e.symm
            simp only [emitF, markOf, touch_mp, touch_imp, touch_nmp, ne_eq, not_true_eq_false, and_false, false_and, not_false_eq_true, nb5_b3, nb3_b5, nb9_b3, nb3_b9, nb9_b5, nb5_b9, e1, e2, e3, RR, seval]
            refine any_branch hd (by kernel_rfl : Region.ready .any _ _ = [11, 12]) (by simp) ⟨?_, ?_, trivial⟩
            · simp only [emitF, markOf, touch_mp, touch_imp, touch_nmp, ne_eq, not_true_eq_false, and_false, false_and, not_false_eq_true, nb5_b3, nb3_b5, nb9_b3, nb3_b9, nb9_b5, nb5_b9, e1, e2, e3, RR, seval]
              refine awpC_pure' (c2) ?_
              simp only [emitF, markOf, touch_mp, touch_imp, touch_nmp, ne_eq, not_true_eq_false, and_false, false_and, not_false_eq_true, nb5_b3, nb3_b5, nb9_b3, nb3_b9, nb9_b5, nb5_b9, e1, e2, e3, RR, seval]
              refine any_plan [(12, 1), (14, 1), (15, 1)] hd (m := 0) rfl (by kernel_rfl) rfl rfl ?_
              simp only [emitF, markOf, touch_mp, touch_imp, touch_nmp, ne_eq, not_true_eq_false, and_false, false_and, not_false_eq_true, nb5_b3, nb3_b5, nb9_b3, nb3_b9, nb9_b5, nb5_b9, e1, e2, e3, RR, seval]
              refine awpN_intro fun b8 hn8 => ?_
              have nb8_b3 : b8 ≠ b3 := fun e => by rw [e] at hn8; simp only [nb5_b3, nb3_b5, nb9_b3, nb3_b9, nb9_b5, nb5_b9, e1, e2, e3, RR, seval, reduceCtorEq] at hn8
              have nb3_b8 : b3 ≠ b8 := fun e => nb8_b3 e.symm
              have nb8_b5 : b8 ≠ b5 := fun e => by rw [e] at hn8; simp only [nb5_b3, nb3_b5, nb9_b3, nb3_b9, nb9_b5, nb5_b9, e1, e2, e3, RR, seval, reduceCtorEq] at hn8
              have nb5_b8 : b5 ≠ b8 := fun e => nb8_b5 e.symm
              have nb8_b9 : b8 ≠ b9 := fun e => by rw [e] at hn8; simp only [nb5_b3, nb3_b5, nb9_b3, nb3_b9, nb9_b5, nb5_b9, e1, e2, e3, RR, seval, reduceCtorEq] at hn8
              have nb9_b8 : b9 ≠ b8 := fun e => nb8_b9 e.symm
              simp only [emitF, markOf, touch_mp, touch_imp, touch_nmp, ne_eq, not_true_eq_false, and_false, false_and, not_false_eq_true, nb5_b3, nb3_b5, nb9_b3, nb3_b9, nb9_b5, nb5_b9, nb8_b3, nb3_b8, nb8_b5, nb5_b8, nb8_b9, nb9_b8, e1, e2, e3, RR, seval]
              refine any_done (by kernel_rfl) ?_
              simp only [nb5_b3, nb3_b5, nb9_b3, nb3_b9, nb9_b5, nb5_b9, nb8_b3, nb3_b8, nb8_b5, nb5_b8, nb8_b9, nb9_b8, e1, e2, e3, RR, seval]
              exact hKR4 _ _ ⟨b8, b9, rfl, rfl, rfl, rfl, (by first | rfl | (simp only [nb5_b3, nb3_b5, nb9_b3, nb3_b9, nb9_b5, nb5_b9, nb8_b3, nb3_b8, nb8_b5, nb5_b8, nb8_b9, nb9_b8, e1, e2, e3, upd_app, RR, seval]; done) | (simp only [nb5_b3, nb3_b5, nb9_b3, nb3_b9, nb9_b5, nb5_b9, nb8_b3, nb3_b8, nb8_b5, nb5_b8, nb8_b9, nb9_b8, e1, e2, e3, upd_app, RR, seval]; rfl)), (by first | rfl | (simp only [nb5_b3, nb3_b5, nb9_b3, nb3_b9, nb9_b5, nb5_b9, nb8_b3, nb3_b8, nb8_b5, nb5_b8, nb8_b9, nb9_b8, e1, e2, e3, upd_app, RR, seval]; done) | (simp only [nb5_b3, nb3_b5, nb9_b3, nb3_b9, nb9_b5, nb5_b9, nb8_b3, nb3_b8, nb8_b5, nb5_b8, nb8_b9, nb9_b8, e1, e2, e3, upd_app, RR, seval]; rfl))⟩
            · simp only [emitF, markOf, touch_mp, touch_imp, touch_nmp, ne_eq, not_true_eq_false, and_false, false_and, not_false_eq_true, nb5_b3, nb3_b5, nb9_b3, nb3_b9, nb9_b5, nb5_b9, e1, e2, e3, RR, seval]
              refine awpN_intro fun b8 hn8 => ?_
              have nb8_b3 : b8 ≠ b3 := fun e => by rw [e] at hn8; simp only [nb5_b3, nb3_b5, nb9_b3, nb3_b9, nb9_b5, nb5_b9, e1, e2, e3, RR, seval, reduceCtorEq] at hn8
              have nb3_b8 : b3 ≠ b8 := fun e => nb8_b3 e.symm
              have nb8_b5 : b8 ≠ b5 := fun e => by rw [e] at hn8; simp only [nb5_b3, nb3_b5, nb9_b3, nb3_b9, nb9_b5, nb5_b9, e1, e2, e3, RR, seval, reduceCtorEq] at hn8
              have nb5_b8 : b5 ≠ b8 := fun e => nb8_b5 e.symm
              have nb8_b9 : b8 ≠ b9 := fun e => by rw [e] at hn8; simp only [nb5_b3, nb3_b5, nb9_b3, nb3_b9, nb9_b5, nb5_b9, e1, e2, e3, RR, seval, reduceCtorEq] at hn8
              have nb9_b8 : b9 ≠ b8 := fun e => nb8_b9 e.symm
              simp only [emitF, markOf, touch_mp, touch_imp, touch_nmp, ne_eq, not_true_eq_false, and_false, false_and, not_false_eq_true, nb5_b3, nb3_b5, nb9_b3, nb3_b9, nb9_b5, nb5_b9, nb8_b3, nb3_b8, nb8_b5, nb5_b8, nb8_b9, nb9_b8, e1, e2, e3, RR, seval]
              refine any_plan [(11, 1), (14, 1), (15, 1)] hd (m := 0) rfl (by kernel_rfl) rfl rfl ?_
              simp only [emitF, markOf, touch_mp, touch_imp, touch_nmp, ne_eq, not_true_eq_false, and_false, false_and, not_false_eq_true, nb5_b3, nb3_b5, nb9_b3, nb3_b9, nb9_b5, nb5_b9, nb8_b3, nb3_b8, nb8_b5, nb5_b8, nb8_b9, nb9_b8, e1, e2, e3, RR, seval]
              refine awpC_pure' (c2) ?_
              simp only [emitF, markOf, touch_mp, touch_imp, touch_nmp, ne_eq, not_true_eq_false, and_false, false_and, not_false_eq_true, nb5_b3, nb3_b5, nb9_b3, nb3_b9, nb9_b5, nb5_b9, nb8_b3, nb3_b8, nb8_b5, nb5_b8, nb8_b9, nb9_b8, e1, e2, e3, RR, seval]
              refine any_done (by kernel_rfl) ?_
              simp only [nb5_b3, nb3_b5, nb9_b3, nb3_b9, nb9_b5, nb5_b9, nb8_b3, nb3_b8, nb8_b5, nb5_b8, nb8_b9, nb9_b8, e1, e2, e3, RR, seval]
              exact hKR4 _ _ ⟨b8, b9, rfl, rfl, rfl, rfl, (by first | rfl | (simp only [nb5_b3, nb3_b5, nb9_b3, nb3_b9, nb9_b5, nb5_b9, nb8_b3, nb3_b8, nb8_b5, nb5_b8, nb8_b9, nb9_b8, e1, e2, e3, upd_app, RR, seval]; done) | (simp only [nb5_b3, nb3_b5, nb9_b3, nb3_b9, nb9_b5, nb5_b9, nb8_b3, nb3_b8, nb8_b5, nb5_b8, nb8_b9, nb9_b8, e1, e2, e3, upd_app, RR, seval]; rfl)), (by first | rfl | (simp only [nb5_b3, nb3_b5, nb9_b3, nb3_b9, nb9_b5, nb5_b9, nb8_b3, nb3_b8, nb8_b5, nb5_b8, nb8_b9, nb9_b8, e1, e2, e3, upd_app, RR, seval]; done) | (simp only [nb5_b3, nb3_b5, nb9_b3, nb3_b9, nb9_b5, nb5_b9, nb8_b3, nb3_b8, nb8_b5, nb5_b8, nb8_b9, nb9_b8, e1, e2, e3, upd_app, RR, seval]; rfl))⟩
        · simp only [emitF, markOf, touch_mp, touch_imp, touch_nmp, ne_eq, not_true_eq_false, and_false, false_and, not_false_eq_true, nb5_b3, nb3_b5, e1, e2, e3, RR, seval]
          refine awpN_intro fun b8 hn8 => ?_
          have nb8_b3 : b8 ≠ b3 := fun e => by rw [e] at hn8; simp only [nb5_b3, nb3_b5, e1, e2, e3, RR, seval, reduceCtorEq] at hn8
          have nb3_b8 : b3 ≠ b8 := fun e => nb8_b3 e.symm
          have nb8_b5 : b8 ≠ b5 := fun e => by rw [e] at hn8; simp only [nb5_b3, nb3_b5, e1, e2, e3, RR, seval, reduceCtorEq] at hn8
          have nb5_b8 : b5 ≠ b8 := fun e => nb8_b5 e.symm
          simp only [emitF, markOf, touch_mp, touch_imp, touch_nmp, ne_eq, not_true_eq_false, and_false, false_and, not_false_eq_true, nb5_b3, nb3_b5, nb8_b3, nb3_b8, nb8_b5, nb5_b8, e1, e2, e3, RR, seval]
          refine any_branch hd (by kernel_rfl : Region.ready .any _ _ = [3, 13]) (by simp) ⟨?_, ?_, trivial⟩
          · simp only [emitF, markOf, touch_mp, touch_imp, touch_nmp, ne_eq, not_true_eq_false, and_false, false_and, not_false_eq_true, nb5_b3, nb3_b5, nb8_b3, nb3_b8, nb8_b5, nb5_b8, e1, e2, e3, RR, seval]
            refine awpC_pure' (c1) ?_
            simp only [emitF, markOf, touch_mp, touch_imp, touch_nmp, ne_eq, not_true_eq_false, and_false, false_and, not_false_eq_true, nb5_b3, nb3_b5, nb8_b3, nb3_b8, nb8_b5, nb5_b8, e1, e2, e3, RR, seval]
            refine any_branch hd (by kernel_rfl : Region.ready .any _ _ = [11, 13]) (by simp) ⟨?_, ?_, trivial⟩
            · simp only [emitF, markOf, touch_mp, touch_imp, touch_nmp, ne_eq, not_true_eq_false, and_false, false_and, not_false_eq_true, nb5_b3, nb3_b5, nb8_b3, nb3_b8, nb8_b5, nb5_b8, e1, e2, e3, RR, seval]
              refine awpC_pure' (c2) ?_
              simp only [emitF, markOf, touch_mp, touch_imp, touch_nmp, ne_eq, not_true_eq_false, and_false, false_and, not_false_eq_true, nb5_b3, nb3_b5, nb8_b3, nb3_b8, nb8_b5, nb5_b8, e1, e2, e3, RR, seval]
              refine any_plan [(13, 1), (14, 1), (15, 1)] hd (m := 0) rfl (by kernel_rfl) rfl rfl ?_
              simp only [emitF, markOf, touch_mp, touch_imp, touch_nmp, ne_eq, not_true_eq_false, and_false, false_and, not_false_eq_true, nb5_b3, nb3_b5, nb8_b3, nb3_b8, nb8_b5, nb5_b8, e1, e2, e3, RR, seval]
              refine awpN_intro fun b9 hn9 => ?_
              have nb9_b3 : b9 ≠ b3 := fun e => by rw [e] at hn9; simp only [nb5_b3, nb3_b5, nb8_b3, nb3_b8, nb8_b5, nb5_b8, e1, e2, e3, RR, seval, reduceCtorEq] at hn9
              have nb3_b9 : b3 ≠ b9 := fun e => nb9_b3 e.symm
              have nb9_b5 : b9 ≠ b5 := fun e => by rw [e] at hn9; simp only [nb5_b3, nb3_b5, nb8_b3, nb3_b8, nb8_b5, nb5_b8, e1, e2, e3, RR, seval, reduceCtorEq] at hn9
              have nb5_b9 : b5 ≠ b9 := fun e => nb9_b5 e.symm
              have nb9_b8 : b9 ≠ b8 := fun e => by rw [e] at hn9; simp only [nb5_b3, nb3_b5, nb8_b3, nb3_b8, nb8_b5, nb5_b8, e1, e2, e3, RR, seval, reduceCtorEq] at hn9
              have nb8_b9 : b8 ≠ b9 := fun e => nb9_b8 e.symm
              simp only [emitF, markOf, touch_mp, touch_imp, touch_nmp, ne_eq, not_true_eq_false, and_false, false_and, not_false_eq_true, nb5_b3, nb3_b5, nb8_b3, nb3_b8, nb8_b5, nb5_b8, nb9_b3, nb3_b9, nb9_b5, nb5_b9, nb9_b8, nb8_b9, e1, e2, e3, RR, seval]
              refine any_done (by kernel_rfl) ?_
              simp only [nb5_b3, nb3_b5, nb8_b3, nb3_b8, nb8_b5, nb5_b8, nb9_b3, nb3_b9, nb9_b5, nb5_b9, nb9_b8, nb8_b9, e1, e2, e3, RR, seval]
              exact hKR4 _ _ ⟨b8, b9, rfl, rfl, rfl, rfl, (by first | rfl | (simp only [nb5_b3, nb3_b5, nb8_b3, nb3_b8, nb8_b5, nb5_b8, nb9_b3, nb3_b9, nb9_b5, nb5_b9, nb9_b8, nb8_b9, e1, e2, e3, upd_app, RR, seval]; done) | (simp only [nb5_b3, nb3_b5, nb8_b3, nb3_b8, nb8_b5, nb5_b8, nb9_b3, nb3_b9, nb9_b5, nb5_b9, nb9_b8, nb8_b9, e1, e2, e3, upd_app, RR, seval]; rfl)), (by first | rfl | (simp only [nb5_b3, nb3_b5, nb8_b3, nb3_b8, nb8_b5, nb5_b8, nb9_b3, nb3_b9, nb9_b5, nb5_b9, nb9_b8, nb8_b9, e1, e2, e3, upd_app, RR, seval]; done) | (simp only [nb5_b3, nb3_b5, nb8_b3, nb3_b8, nb8_b5, nb5_b8, nb9_b3, nb3_b9, nb9_b5, nb5_b9, nb9_b8, nb8_b9, e1, e2, e3, upd_app, RR, seval]; rfl))⟩
            · simp only [emitF, markOf, touch_mp, touch_imp, touch_nmp, ne_eq, not_true_eq_false, and_false, false_and, not_false_eq_true, nb5_b3, nb3_b5, nb8_b3, nb3_b8, nb8_b5, nb5_b8, e1, e2, e3, RR, seval]
              refine awpN_intro fun b9 hn9 => ?_
              have nb9_b3 : b9 ≠ b3 := fun e => by rw [e] at hn9; simp only [nb5_b3, nb3_b5, nb8_b3, nb3_b8, nb8_b5, nb5_b8, e1, e2, e3, RR, seval, reduceCtorEq] at hn9
              have nb3_b9 : b3 ≠ b9 := fun e => nb9_b3 e.symm
              have nb9_b5 : b9 ≠ b5 := fun e => by rw [e] at hn9; simp only [nb5_b3, nb3_b5, nb8_b3, nb3_b8, nb8_b5, nb5_b8, e1, e2, e3, RR, seval, reduceCtorEq] at hn9
              have nb5_b9 : b5 ≠ b9 := fun e => nb9_b5 e.symm
              have nb9_b8 : b9 ≠ b8 := fun e => by rw [e] at hn9; simp only [nb5_b3, nb3_b5, nb8_b3, nb3_b8, nb8_b5, nb5_b8, e1, e2, e3, RR, seval, reduceCtorEq] at hn9
              have nb8_b9 : b8 ≠ b9 := fun e => nb9_b8 e.symm
              simp only [emitF, markOf, touch_mp, touch_imp, touch_nmp, ne_eq, not_true_eq_false, and_false, false_and, not_false_eq_true, nb5_b3, nb3_b5, nb8_b3, nb3_b8, nb8_b5, nb5_b8, nb9_b3, nb3_b9, nb9_b5, nb5_b9, nb9_b8, nb8_b9, e1, e2, e3, RR, seval]
              refine any_plan [(11, 1), (14, 1), (15, 1)] hd (m := 0) rfl (by kernel_rfl) rfl rfl ?_
              simp only [emitF, markOf, touch_mp, touch_imp, touch_nmp, ne_eq, not_true_eq_false, and_false, false_and, not_false_eq_true, nb5_b3, nb3_b5, nb8_b3, nb3_b8, nb8_b5, nb5_b8, nb9_b3, nb3_b9, nb9_b5, nb5_b9, nb9_b8, nb8_b9, e1, e2, e3, RR, seval]
              refine awpC_pure' (c2) ?_
              simp only [emitF, markOf, touch_mp, touch_imp, touch_nmp, ne_eq, not_true_eq_false, and_false, false_and, not_false_eq_true, nb5_b3, nb3_b5, nb8_b3, nb3_b8, nb8_b5, nb5_b8, nb9_b3, nb3_b9, nb9_b5, nb5_b9, nb9_b8, nb8_b9, e1, e2, e3, RR, seval]
              refine any_done (by kernel_rfl) ?_
              simp only [nb5_b3, nb3_b5, nb8_b3, nb3_b8, nb8_b5, nb5_b8, nb9_b3, nb3_b9, nb9_b5, nb5_b9, nb9_b8, nb8_b9, e1, e2, e3, RR, seval]
              exact hKR4 _ _ ⟨b8, b9, rfl, rfl, rfl, rfl, (by first | rfl | (simp only [nb5_b3, nb3_b5, nb8_b3, nb3_b8, nb8_b5, nb5_b8, nb9_b3, nb3_b9, nb9_b5, nb5_b9, nb9_b8, nb8_b9, e1, e2, e3, upd_app, RR, seval]; done) | (simp only [nb5_b3, nb3_b5, nb8_b3, nb3_b8, nb8_b5, nb5_b8, nb9_b3, nb3_b9, nb9_b5, nb5_b9, nb9_b8, nb8_b9, e1, e2, e3, upd_app, RR, seval]; rfl)), (by first | rfl | (simp only [nb5_b3, nb3_b5, nb8_b3, nb3_b8, nb8_b5, nb5_b8, nb9_b3, nb3_b9, nb9_b5, nb5_b9, nb9_b8, nb8_b9, e1, e2, e3, upd_app, RR, seval]; done) | (simp only [nb5_b3, nb3_b5, nb8_b3, nb3_b8, nb8_b5, nb5_b8, nb9_b3, nb3_b9, nb9_b5, nb5_b9, nb9_b8, nb8_b9, e1, e2, e3, upd_app, RR, seval]; rfl))⟩
          · simp only [emitF, markOf, touch_mp, touch_imp, touch_nmp, ne_eq, not_true_eq_false, and_false, false_and, not_false_eq_true, nb5_b3, nb3_b5, nb8_b3, nb3_b8, nb8_b5, nb5_b8, e1, e2, e3, RR, seval]
            refine awpN_intro fun b9 hn9 => ?_
            have nb9_b3 : b9 ≠ b3 := fun e => by rw [e] at hn9; simp only [nb5_b3, nb3_b5, nb8_b3, nb3_b8, nb8_b5, nb5_b8, e1, e2, e3, RR, seval, reduceCtorEq] at hn9
            have nb3_b9 : b3 ≠ b9 := fun e => nb9_b3 e.symm
            have nb9_b5 : b9 ≠ b5 := fun e => by rw [e] at hn9; simp only [nb5_b3, nb3_b5, nb8_b3, nb3_b8, nb8_b5, nb5_b8, e1, e2, e3, RR, seval, reduceCtorEq] at hn9
            have nb5_b9 : b5 ≠ b9 := fun e => nb9_b5 e.symm
            have nb9_b8 : b9 ≠ b8 := fun e => by rw [e] at hn9; simp only [nb5_b3, nb3_b5, nb8_b3, nb3_b8, nb8_b5, nb5_b8, e1, e2, e3, RR, seval, reduceCtorEq] at hn9
            have nb8_b9 : b8 ≠ b9 := fun e => nb9_b8 e.symm
            simp only [emitF, markOf, touch_mp, touch_imp, touch_nmp, ne_eq, not_true_eq_false, and_false, false_and, not_false_eq_true, nb5_b3, nb3_b5, nb8_b3, nb3_b8, nb8_b5, nb5_b8, nb9_b3, nb3_b9, nb9_b5, nb5_b9, nb9_b8, nb8_b9, e1, e2, e3, RR, seval]
            refine any_plan [(3, 1), (11, 1), (14, 1), (15, 1)] hd (m := 0) rfl (by kernel_rfl) rfl rfl ?_
            simp only [emitF, markOf, touch_mp, touch_imp, touch_nmp, ne_eq, not_true_eq_false, and_false, false_and, not_false_eq_true, nb5_b3, nb3_b5, nb8_b3, nb3_b8, nb8_b5, nb5_b8, nb9_b3, nb3_b9, nb9_b5, nb5_b9, nb9_b8, nb8_b9, e1, e2, e3, RR, seval]
            refine awpC_pure' (c1) ?_
            simp only [emitF, markOf, touch_mp, touch_imp, touch_nmp, ne_eq, not_true_eq_false, and_false, false_and, not_false_eq_true, nb5_b3, nb3_b5, nb8_b3, nb3_b8, nb8_b5, nb5_b8, nb9_b3, nb3_b9, nb9_b5, nb5_b9, nb9_b8, nb8_b9, e1, e2, e3, RR, seval]
            refine awpC_pure' (c2) ?_
            simp only [emitF, markOf, touch_mp, touch_imp, touch_nmp, ne_eq, not_true_eq_false, and_false, false_and, not_false_eq_true, nb5_b3, nb3_b5, nb8_b3, nb3_b8, nb8_b5, nb5_b8, nb9_b3, nb3_b9, nb9_b5, nb5_b9, nb9_b8, nb8_b9, e1, e2, e3, RR, seval]
            refine any_done (by kernel_rfl) ?_
            simp only [nb5_b3, nb3_b5, nb8_b3, nb3_b8, nb8_b5, nb5_b8, nb9_b3, nb3_b9, nb9_b5, nb5_b9, nb9_b8, nb8_b9, e1, e2, e3, RR, seval]
            exact hKR4 _ _ ⟨b8, b9, rfl, rfl, rfl, rfl, (by first | rfl | (simp only [nb5_b3, nb3_b5, nb8_b3, nb3_b8, nb8_b5, nb5_b8, nb9_b3, nb3_b9, nb9_b5, nb5_b9, nb9_b8, nb8_b9, e1, e2, e3, upd_app, RR, seval]; done) | (simp only [nb5_b3, nb3_b5, nb8_b3, nb3_b8, nb8_b5, nb5_b8, nb9_b3, nb3_b9, nb9_b5, nb5_b9, nb9_b8, nb8_b9, e1, e2, e3, upd_app, RR, seval]; rfl)), (by first | rfl | (simp only [nb5_b3, nb3_b5, nb8_b3, nb3_b8, nb8_b5, nb5_b8, nb9_b3, nb3_b9, nb9_b5, nb5_b9, nb9_b8, nb8_b9, e1, e2, e3, upd_app, RR, seval]; done) | (simp only [nb5_b3, nb3_b5, nb8_b3, nb3_b8, nb8_b5, nb5_b8, nb9_b3, nb3_b9, nb9_b5, nb5_b9, nb9_b8, nb8_b9, e1, e2, e3, upd_app, RR, seval]; rfl))⟩
        · simp only [emitF, markOf, touch_mp, touch_imp, touch_nmp, ne_eq, not_true_eq_false, and_false, false_and, not_false_eq_true, nb5_b3, nb3_b5, e1, e2, e3, RR, seval]
          refine awpN_intro fun b9 hn9 => ?_
          have nb9_b3 : b9 ≠ b3 := fun e => by rw [e] at hn9; simp only [nb5_b3, nb3_b5, e1, e2, e3, RR, seval, reduceCtorEq] at hn9
          have nb3_b9 : b3 ≠ b9 := fun e => nb9_b3 e.symm
          have nb9_b5 : b9 ≠ b5 := fun e => by rw [e] at hn9; simp only [nb5_b3, nb3_b5, e1, e2, e3, RR, seval, reduceCtorEq] at hn9
          have nb5_b9 : b5 ≠ b9 := fun e => nb9_b5 e.symm
          simp only [emitF, markOf, touch_mp, touch_imp, touch_nmp, ne_eq, not_true_eq_false, and_false, false_and, not_false_eq_true, nb5_b3, nb3_b5, nb9_b3, nb3_b9, nb9_b5, nb5_b9, e1, e2, e3, RR, seval]
          refine any_branch hd (by kernel_rfl : Region.ready .any _ _ = [3, 12]) (by simp) ⟨?_, ?_, trivial⟩
          · simp only [emitF, markOf, touch_mp, touch_imp, touch_nmp, ne_eq, not_true_eq_false, and_false, false_and, not_false_eq_true, nb5_b3, nb3_b5, nb9_b3, nb3_b9, nb9_b5, nb5_b9, e1, e2, e3, RR, seval]
            refine awpC_pure' (c1) ?_
            simp only [emitF, markOf, touch_mp, touch_imp, touch_nmp, ne_eq, not_true_eq_false, and_false, false_and, not_false_eq_true, nb5_b3, nb3_b5, nb9_b3, nb3_b9, nb9_b5, nb5_b9, e1, e2, e3, RR, seval]
            refine any_branch hd (by kernel_rfl : Region.ready .any _ _ = [11, 12]) (by simp) ⟨?_, ?_, trivial⟩
            · simp only [emitF, markOf, touch_mp, touch_imp, touch_nmp, ne_eq, not_true_eq_false, and_false, false_and, not_false_eq_true, nb5_b3, nb3_b5, nb9_b3, nb3_b9, nb9_b5, nb5_b9, e1, e2, e3, RR, seval]
              refine awpC_pure' (c2) ?_
              simp only [emitF, markOf, touch_mp, touch_imp, touch_nmp, ne_eq, not_true_eq_false, and_false, false_and, not_false_eq_true, nb5_b3, nb3_b5, nb9_b3, nb3_b9, nb9_b5, nb5_b9, e1, e2, e3, RR, seval]
              refine any_plan [(12, 1), (14, 1), (15, 1)] hd (m := 0) rfl (by kernel_rfl) rfl rfl ?_
              simp only [emitF, markOf, touch_mp, touch_imp, touch_nmp, ne_eq, not_true_eq_false, and_false, false_and, not_false_eq_true, nb5_b3, nb3_b5, nb9_b3, nb3_b9, nb9_b5, nb5_b9, e1, e2, e3, RR, seval]
              refine awpN_intro fun b8 hn8 => ?_
              have nb8_b3 : b8 ≠ b3 := fun e => by rw [e] at hn8; simp only [nb5_b3, nb3_b5, nb9_b3, nb3_b9, nb9_b5, nb5_b9, e1, e2, e3, RR, seval, reduceCtorEq] at hn8
              have nb3_b8 : b3 ≠ b8 := fun e => nb8_b3 e.symm
              have nb8_b5 : b8 ≠ b5 := fun e => by rw [e] at hn8; simp only [nb5_b3, nb3_b5, nb9_b3, nb3_b9, nb9_b5, nb5_b9, e1, e2, e3, RR, seval, reduceCtorEq] at hn8
              have nb5_b8 : b5 ≠ b8 := fun e => nb8_b5 e.symm
              have nb8_b9 : b8 ≠ b9 := fun e => by rw [e] at hn8; simp only [nb5_b3, nb3_b5, nb9_b3, nb3_b9, nb9_b5, nb5_b9, e1, e2, e3, RR, seval, reduceCtorEq] at hn8
              have nb9_b8 : b9 ≠ b8 := fun e => nb8_b9 e.symm
              simp only [emitF, markOf, touch_mp, touch_imp, touch_nmp, ne_eq, not_true_eq_false, and_false, false_and, not_false_eq_true, nb5_b3, nb3_b5, nb9_b3, nb3_b9, nb9_b5, nb5_b9, nb8_b3, nb3_b8, nb8_b5, nb5_b8, nb8_b9, nb9_b8, e1, e2, e3, RR, seval]
              refine any_done (by kernel_rfl) ?_
              simp only [nb5_b3, nb3_b5, nb9_b3, nb3_b9, nb9_b5, nb5_b9, nb8_b3, nb3_b8, nb8_b5, nb5_b8, nb8_b9, nb9_b8, e1, e2, e3, RR, seval]
              exact hKR4 _ _ ⟨b8, b9, rfl, rfl, rfl, rfl, (by first | rfl | (simp only [nb5_b3, nb3_b5, nb9_b3, nb3_b9, nb9_b5, nb5_b9, nb8_b3, nb3_b8, nb8_b5, nb5_b8, nb8_b9, nb9_b8, e1, e2, e3, upd_app, RR, seval]; done) | (simp only [nb5_b3, nb3_b5, nb9_b3, nb3_b9, nb9_b5, nb5_b9, nb8_b3, nb3_b8, nb8_b5, nb5_b8, nb8_b9, nb9_b8, e1, e2, e3, upd_app, RR, seval]; rfl)), (by first | rfl | (simp only [nb5_b3, nb3_b5, nb9_b3, nb3_b9, nb9_b5, nb5_b9, nb8_b3, nb3_b8, nb8_b5, nb5_b8, nb8_b9, nb9_b8, e1, e2, e3, upd_app, RR, seval]; done) | (simp only [nb5_b3, nb3_b5, nb9_b3, nb3_b9, nb9_b5, nb5_b9, nb8_b3, nb3_b8, nb8_b5, nb5_b8, nb8_b9, nb9_b8, e1, e2, e3, upd_app, RR, seval]; rfl))⟩
            · simp only [emitF, markOf, touch_mp, touch_imp, touch_nmp, ne_eq, not_true_eq_false, and_false, false_and, not_false_eq_true, nb5_b3, nb3_b5, nb9_b3, nb3_b9, nb9_b5, nb5_b9, e1, e2, e3, RR, seval]
              refine awpN_intro fun b8 hn8 => ?_
              have nb8_b3 : b8 ≠ b3 := fun e => by rw [e] at hn8; simp only [nb5_b3, nb3_b5, nb9_b3, nb3_b9, nb9_b5, nb5_b9, e1, e2, e3, RR, seval, reduceCtorEq] at hn8
              have nb3_b8 : b3 ≠ b8 := fun e => nb8_b3 e.symm
              have nb8_b5 : b8 ≠ b5 := fun e => by rw [e] at hn8; simp only [nb5_b3, nb3_b5, nb9_b3, nb3_b9, nb9_b5, nb5_b9, e1, e2, e3, RR, seval, reduceCtorEq] at hn8
              have nb5_b8 : b5 ≠ b8 := fun e => nb8_b5 e.symm
              have nb8_b9 : b8 ≠ b9 := fun e => by rw [e] at hn8; simp only [nb5_b3, nb3_b5, nb9_b3, nb3_b9, nb9_b5, nb5_b9, e1, e2, e3, RR, seval, reduceCtorEq] at hn8
              have nb9_b8 : b9 ≠ b8 := fun e => nb8_b9 e.symm
              simp only [emitF, markOf, touch_mp, touch_imp, touch_nmp, ne_eq, not_true_eq_false, and_false, false_and, not_false_eq_true, nb5_b3, nb3_b5, nb9_b3, nb3_b9, nb9_b5, nb5_b9, nb8_b3, nb3_b8, nb8_b5, nb5_b8, nb8_b9, nb9_b8, e1, e2, e3, RR, seval]
              refine any_plan [(11, 1), (14, 1), (15, 1)] hd (m := 0) rfl (by kernel_rfl) rfl rfl ?_
              simp only [emitF, markOf, touch_mp, touch_imp, touch_nmp, ne_eq, not_true_eq_false, and_false, false_and, not_false_eq_true, nb5_b3, nb3_b5, nb9_b3, nb3_b9, nb9_b5, nb5_b9, nb8_b3, nb3_b8, nb8_b5, nb5_b8, nb8_b9, nb9_b8, e1, e2, e3, RR, seval]
              refine awpC_pure' (c2) ?_
              simp only [emitF, markOf, touch_mp, touch_imp, touch_nmp, ne_eq, not_true_eq_false, and_false, false_and, not_false_eq_true, nb5_b3, nb3_b5, nb9_b3, nb3_b9, nb9_b5, nb5_b9, nb8_b3, nb3_b8, nb8_b5, nb5_b8, nb8_b9, nb9_b8, e1, e2, e3, RR, seval]
              refine any_done (by kernel_rfl) ?_
              simp only [nb5_b3, nb3_b5, nb9_b3, nb3_b9, nb9_b5, nb5_b9, nb8_b3, nb3_b8, nb8_b5, nb5_b8, nb8_b9, nb9_b8, e1, e2, e3, RR, seval]
              exact hKR4 _ _ ⟨b8, b9, rfl, rfl, rfl, rfl, (by first | rfl | (simp only [nb5_b3, nb3_b5, nb9_b3, nb3_b9, nb9_b5, nb5_b9, nb8_b3, nb3_b8, nb8_b5, nb5_b8, nb8_b9, nb9_b8, e1, e2, e3, upd_app, RR, seval]; done) | (simp only [nb5_b3, nb3_b5, nb9_b3, nb3_b9, nb9_b5, nb5_b9, nb8_b3, nb3_b8, nb8_b5, nb5_b8, nb8_b9, nb9_b8, e1, e2, e3, upd_app, RR, seval]; rfl)), (by first | rfl | (simp only [nb5_b3, nb3_b5, nb9_b3, nb3_b9, nb9_b5, nb5_b9, nb8_b3, nb3_b8, nb8_b5, nb5_b8, nb8_b9, nb9_b8, e1, e2, e3, upd_app, RR, seval]; done) | (simp only [nb5_b3, nb3_b5, nb9_b3, nb3_b9, nb9_b5, nb5_b9, nb8_b3, nb3_b8, nb8_b5, nb5_b8, nb8_b9, nb9_b8, e1, e2, e3, upd_app, RR, seval]; rfl))⟩
          · simp only [emitF, markOf, touch_mp, touch_imp, touch_nmp, ne_eq, not_true_eq_false, and_false, false_and, not_false_eq_true, nb5_b3, nb3_b5, nb9_b3, nb3_b9, nb9_b5, nb5_b9, e1, e2, e3, RR, seval]
            refine awpN_intro fun b8 hn8 => ?_
            have nb8_b3 : b8 ≠ b3 := fun e => by rw [e] at hn8; simp only [nb5_b3, nb3_b5, nb9_b3, nb3_b9, nb9_b5, nb5_b9, e1, e2, e3, RR, seval, reduceCtorEq] at hn8
            have nb3_b8 : b3 ≠ b8 := fun e => nb8_b3 e.symm
            have nb8_b5 : b8 ≠ b5 := fun e => by rw [e] at hn8; simp only [nb5_b3, nb3_b5, nb9_b3, nb3_b9, nb9_b5, nb5_b9, e1, e2, e3, RR, seval, reduceCtorEq] at hn8
            have nb5_b8 : b5 ≠ b8 := fun e => nb8_b5 e.symm
            have nb8_b9 : b8 ≠ b9 := fun e => by rw [e] at hn8; simp only [nb5_b3, nb3_b5, nb9_b3, nb3_b9, nb9_b5, nb5_b9, e1, e2, e3, RR, seval, reduceCtorEq] at hn8
            have nb9_b8 : b9 ≠ b8 := fun e => nb8_b9 e.symm
            simp only [emitF, markOf, touch_mp, touch_imp, touch_nmp, ne_eq, not_true_eq_false, and_false, false_and, not_false_eq_true, nb5_b3, nb3_b5, nb9_b3, nb3_b9, nb9_b5, nb5_b9, nb8_b3, nb3_b8, nb8_b5, nb5_b8, nb8_b9, nb9_b8, e1, e2, e3, RR, seval]
            refine any_plan [(3, 1), (11, 1), (14, 1), (15, 1)] hd (m := 0) rfl (by kernel_rfl) rfl rfl ?_
            simp only [emitF, markOf, touch_mp, touch_imp, touch_nmp, ne_eq, not_true_eq_false, and_false, false_and, not_false_eq_true, nb5_b3, nb3_b5, nb9_b3, nb3_b9, nb9_b5, nb5_b9, nb8_b3, nb3_b8, nb8_b5, nb5_b8, nb8_b9, nb9_b8, e1, e2, e3, RR, seval]
            refine awpC_pure' (c1) ?_
            simp only [emitF, markOf, touch_mp, touch_imp, touch_nmp, ne_eq, not_true_eq_false, and_false, false_and, not_false_eq_true, nb5_b3, nb3_b5, nb9_b3, nb3_b9, nb9_b5, nb5_b9, nb8_b3, nb3_b8, nb8_b5, nb5_b8, nb8_b9, nb9_b8, e1, e2, e3, RR, seval]
            refine awpC_pure' (c2) ?_
            simp only [emitF, markOf, touch_mp, touch_imp, touch_nmp, ne_eq, not_true_eq_false, and_false, false_and, not_false_eq_true, nb5_b3, nb3_b5, nb9_b3, nb3_b9, nb9_b5, nb5_b9, nb8_b3, nb3_b8, nb8_b5, nb5_b8, nb8_b9, nb9_b8, e1, e2, e3, RR, seval]
            refine any_done (by kernel_rfl) ?_
            simp only [nb5_b3, nb3_b5, nb9_b3, nb3_b9, nb9_b5, nb5_b9, nb8_b3, nb3_b8, nb8_b5, nb5_b8, nb8_b9, nb9_b8, e1, e2, e3, RR, seval]
            exact hKR4 _ _ ⟨b8, b9, rfl, rfl, rfl, rfl, (by first | rfl | (simp only [nb5_b3, nb3_b5, nb9_b3, nb3_b9, nb9_b5, nb5_b9, nb8_b3, nb3_b8, nb8_b5, nb5_b8, nb8_b9, nb9_b8, e1, e2, e3, upd_app, RR, seval]; done) | (simp only [nb5_b3, nb3_b5, nb9_b3, nb3_b9, nb9_b5, nb5_b9, nb8_b3, nb3_b8, nb8_b5, nb5_b8, nb8_b9, nb9_b8, e1, e2, e3, upd_app, RR, seval]; rfl)), (by first | rfl | (simp only [nb5_b3, nb3_b5, nb9_b3, nb3_b9, nb9_b5, nb5_b9, nb8_b3, nb3_b8, nb8_b5, nb5_b8, nb8_b9, nb9_b8, e1, e2, e3, upd_app, RR, seval]; done) | (simp only [nb5_b3, nb3_b5, nb9_b3, nb3_b9, nb9_b5, nb5_b9, nb8_b3, nb3_b8, nb8_b5, nb5_b8, nb8_b9, nb9_b8, e1, e2, e3, upd_app, RR, seval]; rfl))⟩
      rintro F1 M1 ⟨b8, b9, f1, f7, f8, f9, hb8, hb9⟩
      simp only [thenQ_normal]
      refine hK _ _ ?_; clear hK K
      refine awp_seq ?_
      refine awp_seq_k fun K hK => ?_
      refine awp_region rfl ?_
      simp only [f1, f7, f8, f9, hb8, hb9, nb5_b3, nb3_b5, e1, e2, e3, q3, RR, seval]
      refine hK _ _ ?_; clear hK K
      refine awp_if true rfl (fun _ => ?_) (fun hc => by cases hc)
      refine awp_seq_k fun K hK => ?_
      refine awp_region rfl ?_
      simp only [f1, f7, f8, f9, hb8, hb9, nb5_b3, nb3_b5, e1, e2, e3, q3, acells, Option.map_some, decide_true, Bool.and_self, Bool.and_true, q4, RR, seval]
      all_goals try (refine awpC_pure' (awake_con) ?_; simp only [f1, f7, f8, f9, hb8, hb9, nb5_b3, nb3_b5, e1, e2, e3, q3, acells, Option.map_some, decide_true, Bool.and_self, Bool.and_true, q4, RR, seval])
      all_goals try ((first | refine awpG_splitN (fun h => ?_) (fun h => ?_) | refine awpG_split (fun h => ?_) (fun h => ?_)) <;> simp only [h, f1, f7, f8, f9, hb8, hb9, nb5_b3, nb3_b5, e1, e2, e3, q3, acells, Option.map_some, decide_true, Bool.and_self, Bool.and_true, q4, RR, seval])
      all_goals try ((first | refine awpG_splitN (fun h => ?_) (fun h => ?_) | refine awpG_split (fun h => ?_) (fun h => ?_)) <;> simp only [h, f1, f7, f8, f9, hb8, hb9, nb5_b3, nb3_b5, e1, e2, e3, q3, acells, Option.map_some, decide_true, Bool.and_self, Bool.and_true, q4, RR, seval])
      all_goals
        refine hK _ _ ?_; clear hK K
        refine awp_ret ?_; simp only [bodyQ, aresult, ares, f1, f7, f8, f9, hb8, hb9, nb5_b3, nb3_b5, e1, e2, e3, q3, acells, Option.map_some, decide_true, Bool.and_self, Bool.and_true, q4, RR, seval]
        refine Gives.pure ?_
        rfl
end Go.Proofs.Ytlokndnkpleegaa
