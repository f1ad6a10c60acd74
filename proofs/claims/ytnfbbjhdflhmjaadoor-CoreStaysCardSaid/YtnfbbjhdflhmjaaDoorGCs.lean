/- Chapter 19: CoreStays. -/
import Derived.Test.YtnfbbjhdflhmjaaDoorGLu
set_option linter.unusedSimpArgs false
set_option linter.unusedVariables false
set_option maxRecDepth 10000
namespace Go.Proofs.YtnfbbjhdflhmjaaDoor
open Go.Al
theorem cxC_fuel (c : Co) (inp : Str) (n : Nat) : (cxC c inp (n : Int)).fuel = n := by
 show (if (n : Int) < 0 then (0 : Int) else (n : Int)).toNat = n
 rw [if_neg (by omega)]; omega
set_option maxHeartbeats 4000000 in
theorem CoreStays_con (c : Co) (hc : c.ok) (inp : Str) (a b : Int) (ha : i64R a) (hb : i64R b) : PCon env 4 [c.av, .str inp, .agg [.int .i64 a, .int .i64 b]] (.bool true) := by
 have hf := Fair_con right_is c hc 300 (by omega)
 have hfi := fun h => fair_is (m := 300) hc h
 have hav : c.av = .agg [.int .i64 c.words, .isl 5 (c.funs.map CF.row)] := rfl
 generalize fairC c 300 = q0 at *
 by_cases hq : q0 = true ∧ inp.length ≤ 60 ∧ 0 ≤ a ∧ a ≤ b ∧ b ≤ 300
 rotate_left
 ·rw [hav] at *
  refine con_of 98 [.tmp 6] Tryd.func4 rfl rfl rfl rfl ?_
  refine awp_seq_k fun K hK => ?_
  refine awp_region rfl ?_
  simp only [RR, seval]
  refine awpN_intro fun b3 hn3 => ?_
  simp only [RR, seval]
  refine awpN_intro fun b5 hn5 => ?_
  have nb5_b3 : b5 ≠ b3 := fun e => by rw [e] at hn5; simp only [RR, seval, reduceCtorEq] at hn5
  have nb3_b5 : b3 ≠ b5 := fun e => nb5_b3 e.symm
  simp only [RR, seval]
  refine hK _ _ ?_; clear hK K
  refine awp_seq ?_
  refine awp_seq_k fun K hK => ?_
  refine awp_region rfl ?_
  simp only [RR, seval]
  refine awpC_pure' (alive_con) ?_
  simp only [RR, seval]
  refine hK _ _ ?_; clear hK K
  refine awp_if false rfl (fun hc => by cases hc) (fun _ => ?_)
  refine awp_skip ?_; try simp only [RR]
  refine awp_seq ?_
  refine awp_name fun F1 M1 hfr hH => ?_
  have g1 := hfr 1
  have g3 := hfr 3
  have g5 := hfr 5
  have g6 := hfr 6
  have gb3 := hH b3
  have gb5 := hH b5
  try simp only [nb3_b5, RR, seval] at g1 g3 g5 g6 gb3 gb5
  have f1 := g1; clear g1
  have f3 := g3; clear g3
  have f5 := g5; clear g5
  have f6 := g6; clear g6
  have hb3 := gb3; clear gb3
  have hb5 := gb5; clear gb5
  clear hfr hH
  refine awp_cutP (fun fr M => agree [1, 3, 5] F1 fr ∧ M b3 = M1 b3 ∧ M b5 = M1 b5 ∧ False) (fun KS3 hKS3 => ?_) ?_
  ·have agS3 := agree.refl [1, 3, 5] F1
   have eS3_b3 : M1 b3 = M1 b3 := rfl
   have eS3_b5 : M1 b5 = M1 b5 := rfl
   refine awp_seq_k fun K hK => ?_
   refine awp_region rfl ?_
   simp only [f3, hb3, RR, seval]
   all_goals try (refine awpC_pure' (hf) ?_; simp only [RR, seval])
   all_goals try ((first | refine awpG_splitN (fun h => ?_) (fun h => ?_) | refine awpG_split (fun h => ?_) (fun h => ?_)) <;> simp only [h, f1, RR, seval])
   all_goals try ((first | refine awpG_splitN (fun h => ?_) (fun h => ?_) | refine awpG_split (fun h => ?_) (fun h => ?_)) <;> simp only [h, f5, hb5, RR, seval])
   all_goals try ((first | refine awpG_splitN (fun h => ?_) (fun h => ?_) | refine awpG_split (fun h => ?_) (fun h => ?_)) <;> simp only [h, f5, hb5, RR, seval])
   all_goals try ((first | refine awpG_splitN (fun h => ?_) (fun h => ?_) | refine awpG_split (fun h => ?_) (fun h => ?_)) <;> simp only [h, f5, hb5, RR, seval])
   all_goals
    refine hK _ _ ?_; clear hK K
    refine awp_if _ rfl (fun hc3 => ?_) (fun hc3 => ?_)
    ·try (cases hc3; done)
     all_goals
      refine awp_seq_k fun K hK => ?_
      refine awp_region rfl ?_
      simp only [RR, seval]
      refine hK _ _ ?_; clear hK K
      refine awp_ret ?_; simp only [bodyQ, aresult, ares, RR, seval]
      refine Gives.pure ?_
      rfl
    ·try (cases hc3; done)
     all_goals
      refine awp_skip ?_; try simp only [RR]
      refine hKS3 _ _ ⟨(by repeat (first | exact agS3 | refine agree.upd rfl ?_)), (by first | exact eS3_b3 | (simp only [nb5_b3, nb3_b5, upd_app, seval]; first | done | exact eS3_b3)), (by first | exact eS3_b5 | (simp only [nb5_b3, nb3_b5, upd_app, seval]; first | done | exact eS3_b5)), ?_⟩
      exact hq ⟨by simpa using ‹(!q0) = false›, by have := of_decide_eq_false ‹decide ((60 : Int) < (inp.length : Int)) = false›; omega, by have := of_decide_eq_false ‹decide (a < 0) = false›; omega, by have := of_decide_eq_false ‹decide (b < a) = false›; omega, by have := of_decide_eq_false ‹decide ((300 : Int) < b) = false›; omega⟩
  rintro F2 M2 ⟨agx, gb3, gb5, hx⟩
  have f1 := (agx 1 rfl).trans f1
  have f3 := (agx 3 rfl).trans f3
  have f5 := (agx 5 rfl).trans f5
  have hb3 := gb3.trans hb3
  have hb5 := gb5.trans hb5
  clear agx
  clear gb3
  clear gb5
  simp only [RR, seval]
  exact hx.elim
 obtain ⟨rfl, hin, h1, h2, h3⟩ := hq
 obtain ⟨hco, hsz⟩ := hfi rfl
 obtain ⟨n, rfl⟩ := Int.eq_ofNat_of_zero_le h1
 obtain ⟨m, rfl⟩ := Int.eq_ofNat_of_zero_le (Int.le_trans h1 h2)
 obtain ⟨k1, ⟨x1, o1, t1⟩, r1, c1⟩ := co_run hco inp (by omega) n ha
 obtain ⟨k2, ⟨x2, o2, t2⟩, r2, c2⟩ := co_run hco inp (by omega) m hb
 have hl := krun_fuel (cx := cxC c inp (n : Int)) (cx' := cxC c inp (m : Int)) (by rw [cxC_fuel, cxC_fuel]; omega) rfl rfl r1 r2
 have hl2 := (krun_fuel (Nat.le_refl _) rfl rfl r2 r2).1
 rw [cxC_fuel] at hl hl2
 have z0 : decide ((60 : Int) < (inp.length : Int)) = false := decide_eq_false (by omega)
 have z1 : decide ((n : Int) < 0) = false := decide_eq_false (by omega)
 have z2 : decide ((m : Int) < (n : Int)) = false := decide_eq_false (by omega)
 have z3 : decide ((300 : Int) < (m : Int)) = false := decide_eq_false (by omega)
 clear r1 r2 hfi hco hsz
 simp only at hl hl2
 simp only [resV] at c1 c2
 by_cases h5 : x1 = 5
 ·subst h5
  obtain ⟨g1, g2, g3⟩ := hl.2.2 rfl
  subst g1
  obtain ⟨s, rfl⟩ := g2
  have q1 : (o1.length : Int) ≤ ((o1 ++ s).length : Int) := by rw [List.length_append]; omega
  have q2 : List.take o1.length (o1 ++ s) = o1 := List.take_left' rfl
  have q3 : decide ((o1.length : Int) ≤ ((o1 ++ s).length : Int)) = true := decide_eq_true q1
  have q4 : decide ((t1 : Int) ≤ (t2 : Int)) = true := decide_eq_true (by omega)
  have q5 : decide ((t2 : Int) ≤ (m : Int)) = true := decide_eq_true (by omega)
  clear hl
  generalize o1 ++ s = o2 at *
  rw [hav] at *
  refine con_of 98 [.tmp 6] Tryd.func4 rfl rfl rfl rfl ?_
  refine awp_seq_k fun K hK => ?_
  refine awp_region rfl ?_
  simp only [RR, seval]
  refine awpN_intro fun b3 hn3 => ?_
  simp only [RR, seval]
  refine awpN_intro fun b5 hn5 => ?_
  have nb5_b3 : b5 ≠ b3 := fun e => by rw [e] at hn5; simp only [RR, seval, reduceCtorEq] at hn5
  have nb3_b5 : b3 ≠ b5 := fun e => nb5_b3 e.symm
  simp only [RR, seval]
  refine hK _ _ ?_; clear hK K
  refine awp_seq ?_
  refine awp_seq_k fun K hK => ?_
  refine awp_region rfl ?_
  simp only [RR, seval]
  refine awpC_pure' (alive_con) ?_
  simp only [RR, seval]
  refine hK _ _ ?_; clear hK K
  refine awp_if false rfl (fun hc => by cases hc) (fun _ => ?_)
  refine awp_skip ?_; try simp only [RR]
  refine awp_seq ?_
  refine awp_seq_k fun K hK => ?_
  refine awp_region rfl ?_
  simp only [nb3_b5, RR, seval]
  refine awpC_pure' (hf) ?_
  simp only [z0, z1, z2, z3, RR, seval]
  refine hK _ _ ?_; clear hK K
  refine awp_if false rfl (fun hc => by cases hc) (fun _ => ?_)
  refine awp_skip ?_; try simp only [RR]
  refine awp_seq_k fun K hK => ?_
  refine awp_cutP (fun fr M => ∃ b8 b9, fr 5 = .ptr 2 b5 0 0 ∧ fr 7 = .ptr 3 b8 0 0 ∧ fr 8 = .ptr 3 b9 0 0 ∧ M b5 = some (.rows 2 [[.int .i64 (t1 : Int), .int .i64 (m : Int)]]) ∧ M b8 = some (.rows 3 [[.int .i64 5, .str o1, .int .i64 (t1 : Int)]]) ∧ M b9 = some (.rows 3 [[.int .i64 x2, .str o2, .int .i64 (t2 : Int)]])) (fun KR5 hKR5 => ?_) ?_
  ·refine awp_region_any (fun x => x ≠ b3 ∧ x ≠ b5) draws (by kernel_rfl) fun hd => ?_
   refine any_plan [(0, 0), (1, 3), (2, 3), (3, 0), (5, 0), (6, 3), (7, 3), (8, 0)] hd (m := 6) rfl (by kernel_rfl) rfl rfl ?_
   simp only [emitF, markOf, nb5_b3, nb3_b5, RR, seval]
   refine any_branch hd (by kernel_rfl : Region.ready .any _ _ = [4, 10, 11]) (by simp) ⟨?_, ?_, ?_, trivial⟩
   ·simp only [RR, seval]
    refine awpC_pure' (c1) ?_
    simp only [RR, seval]
    refine any_branch hd (by kernel_rfl : Region.ready .any _ _ = [9, 10, 11]) (by simp) ⟨?_, ?_, ?_, trivial⟩
    ·simp only [RR, seval]
     refine awpC_pure' (c2) ?_
     simp only [RR, seval]
     refine any_branch hd (by kernel_rfl : Region.ready .any _ _ = [10, 11]) (by simp) ⟨?_, ?_, trivial⟩
     ·simp only [RR, seval]
      refine awpN_intro fun b7 hn7 => ?_
      have nb7_b3 : b7 ≠ b3 := fun e => by rw [e] at hn7; simp only [nb3_b5, RR, seval, reduceCtorEq] at hn7
      have nb3_b7 : b3 ≠ b7 := fun e => nb7_b3 e.symm
      have nb7_b5 : b7 ≠ b5 := fun e => by rw [e] at hn7; simp only [RR, seval, reduceCtorEq] at hn7
      have nb5_b7 : b5 ≠ b7 := fun e => nb7_b5 e.symm
      simp only [RR, seval]
      refine any_plan [(11, 1), (12, 1), (13, 1)] hd (m := 0) rfl (by kernel_rfl) rfl rfl ?_
      simp only [emitF, RR, seval]
      refine awpN_intro fun b8 hn8 => ?_
      have nb8_b3 : b8 ≠ b3 := fun e => by rw [e] at hn8; simp only [nb3_b5, nb3_b7, RR, seval, reduceCtorEq] at hn8
      have nb3_b8 : b3 ≠ b8 := fun e => nb8_b3 e.symm
      have nb8_b5 : b8 ≠ b5 := fun e => by rw [e] at hn8; simp only [nb5_b7, RR, seval, reduceCtorEq] at hn8
      have nb5_b8 : b5 ≠ b8 := fun e => nb8_b5 e.symm
      have nb8_b7 : b8 ≠ b7 := fun e => by rw [e] at hn8; simp only [RR, seval, reduceCtorEq] at hn8
      have nb7_b8 : b7 ≠ b8 := fun e => nb8_b7 e.symm
      simp only [nb7_b3, nb7_b5, nb8_b3, nb8_b5, nb8_b7, nb7_b8, RR, seval]
      refine any_done (by kernel_rfl) ?_
      simp only [RR, seval]
      exact hKR5 _ _ ⟨b7, b8, rfl, rfl, rfl, (by first | rfl | (simp only [nb5_b7, nb5_b8, upd_app, seval]; done) | (simp only [nb5_b3, nb3_b5, nb7_b3, nb3_b7, nb7_b5, nb5_b7, nb8_b3, nb3_b8, nb8_b5, nb5_b8, nb8_b7, nb7_b8, z0, z1, z2, z3, upd_app, RR, seval]; rfl)), (by first | rfl | (simp only [nb7_b8, upd_app, seval]; done) | (simp only [nb5_b3, nb3_b5, nb7_b3, nb3_b7, nb7_b5, nb5_b7, nb8_b3, nb3_b8, nb8_b5, nb5_b8, nb8_b7, nb7_b8, z0, z1, z2, z3, upd_app, RR, seval]; rfl)), (by first | rfl | (simp only [upd_app, seval]; done) | (simp only [nb5_b3, nb3_b5, nb7_b3, nb3_b7, nb7_b5, nb5_b7, nb8_b3, nb3_b8, nb8_b5, nb5_b8, nb8_b7, nb7_b8, z0, z1, z2, z3, upd_app, RR, seval]; rfl))⟩
     ·simp only [RR, seval]
      refine awpN_intro fun b8 hn8 => ?_
      have nb8_b3 : b8 ≠ b3 := fun e => by rw [e] at hn8; simp only [nb3_b5, RR, seval, reduceCtorEq] at hn8
      have nb3_b8 : b3 ≠ b8 := fun e => nb8_b3 e.symm
      have nb8_b5 : b8 ≠ b5 := fun e => by rw [e] at hn8; simp only [RR, seval, reduceCtorEq] at hn8
      have nb5_b8 : b5 ≠ b8 := fun e => nb8_b5 e.symm
      simp only [RR, seval]
      refine any_plan [(10, 1), (12, 1), (13, 1)] hd (m := 0) rfl (by kernel_rfl) rfl rfl ?_
      simp only [emitF, RR, seval]
      refine awpN_intro fun b7 hn7 => ?_
      have nb7_b3 : b7 ≠ b3 := fun e => by rw [e] at hn7; simp only [nb3_b5, nb3_b8, RR, seval, reduceCtorEq] at hn7
      have nb3_b7 : b3 ≠ b7 := fun e => nb7_b3 e.symm
      have nb7_b5 : b7 ≠ b5 := fun e => by rw [e] at hn7; simp only [nb5_b8, RR, seval, reduceCtorEq] at hn7
      have nb5_b7 : b5 ≠ b7 := fun e => nb7_b5 e.symm
      have nb7_b8 : b7 ≠ b8 := fun e => by rw [e] at hn7; simp only [RR, seval, reduceCtorEq] at hn7
      have nb8_b7 : b8 ≠ b7 := fun e => nb7_b8 e.symm
      simp only [nb8_b3, nb8_b5, nb7_b3, nb7_b5, nb8_b7, RR, seval]
      refine any_done (by kernel_rfl) ?_
      simp only [RR, seval]
      exact hKR5 _ _ ⟨b7, b8, rfl, rfl, rfl, (by first | rfl | (simp only [nb5_b8, nb5_b7, upd_app, seval]; done) | (simp only [nb5_b3, nb3_b5, nb8_b3, nb3_b8, nb8_b5, nb5_b8, nb7_b3, nb3_b7, nb7_b5, nb5_b7, nb7_b8, nb8_b7, z0, z1, z2, z3, upd_app, RR, seval]; rfl)), (by first | rfl | (simp only [nb7_b8, upd_app, seval]; done) | (simp only [nb5_b3, nb3_b5, nb8_b3, nb3_b8, nb8_b5, nb5_b8, nb7_b3, nb3_b7, nb7_b5, nb5_b7, nb7_b8, nb8_b7, z0, z1, z2, z3, upd_app, RR, seval]; rfl)), (by first | rfl | (simp only [upd_app, seval]; done) | (simp only [nb5_b3, nb3_b5, nb8_b3, nb3_b8, nb8_b5, nb5_b8, nb7_b3, nb3_b7, nb7_b5, nb5_b7, nb7_b8, nb8_b7, z0, z1, z2, z3, upd_app, RR, seval]; rfl))⟩
    ·simp only [RR, seval]
     refine awpN_intro fun b7 hn7 => ?_
     have nb7_b3 : b7 ≠ b3 := fun e => by rw [e] at hn7; simp only [nb3_b5, RR, seval, reduceCtorEq] at hn7
     have nb3_b7 : b3 ≠ b7 := fun e => nb7_b3 e.symm
     have nb7_b5 : b7 ≠ b5 := fun e => by rw [e] at hn7; simp only [RR, seval, reduceCtorEq] at hn7
     have nb5_b7 : b5 ≠ b7 := fun e => nb7_b5 e.symm
     simp only [RR, seval]
     refine any_branch hd (by kernel_rfl : Region.ready .any _ _ = [9, 11]) (by simp) ⟨?_, ?_, trivial⟩
     ·simp only [RR, seval]
      refine awpC_pure' (c2) ?_
      simp only [RR, seval]
      refine any_plan [(11, 1), (12, 1), (13, 1)] hd (m := 0) rfl (by kernel_rfl) rfl rfl ?_
      simp only [emitF, RR, seval]
      refine awpN_intro fun b8 hn8 => ?_
      have nb8_b3 : b8 ≠ b3 := fun e => by rw [e] at hn8; simp only [nb3_b5, nb3_b7, RR, seval, reduceCtorEq] at hn8
      have nb3_b8 : b3 ≠ b8 := fun e => nb8_b3 e.symm
      have nb8_b5 : b8 ≠ b5 := fun e => by rw [e] at hn8; simp only [nb5_b7, RR, seval, reduceCtorEq] at hn8
      have nb5_b8 : b5 ≠ b8 := fun e => nb8_b5 e.symm
      have nb8_b7 : b8 ≠ b7 := fun e => by rw [e] at hn8; simp only [RR, seval, reduceCtorEq] at hn8
      have nb7_b8 : b7 ≠ b8 := fun e => nb8_b7 e.symm
      simp only [nb7_b3, nb7_b5, nb8_b3, nb8_b5, nb8_b7, nb7_b8, RR, seval]
      refine any_done (by kernel_rfl) ?_
      simp only [RR, seval]
      exact hKR5 _ _ ⟨b7, b8, rfl, rfl, rfl, (by first | rfl | (simp only [nb5_b7, nb5_b8, upd_app, seval]; done) | (simp only [nb5_b3, nb3_b5, nb7_b3, nb3_b7, nb7_b5, nb5_b7, nb8_b3, nb3_b8, nb8_b5, nb5_b8, nb8_b7, nb7_b8, z0, z1, z2, z3, upd_app, RR, seval]; rfl)), (by first | rfl | (simp only [nb7_b8, upd_app, seval]; done) | (simp only [nb5_b3, nb3_b5, nb7_b3, nb3_b7, nb7_b5, nb5_b7, nb8_b3, nb3_b8, nb8_b5, nb5_b8, nb8_b7, nb7_b8, z0, z1, z2, z3, upd_app, RR, seval]; rfl)), (by first | rfl | (simp only [upd_app, seval]; done) | (simp only [nb5_b3, nb3_b5, nb7_b3, nb3_b7, nb7_b5, nb5_b7, nb8_b3, nb3_b8, nb8_b5, nb5_b8, nb8_b7, nb7_b8, z0, z1, z2, z3, upd_app, RR, seval]; rfl))⟩
     ·simp only [RR, seval]
      refine awpN_intro fun b8 hn8 => ?_
      have nb8_b3 : b8 ≠ b3 := fun e => by rw [e] at hn8; simp only [nb3_b5, nb3_b7, RR, seval, reduceCtorEq] at hn8
      have nb3_b8 : b3 ≠ b8 := fun e => nb8_b3 e.symm
      have nb8_b5 : b8 ≠ b5 := fun e => by rw [e] at hn8; simp only [nb5_b7, RR, seval, reduceCtorEq] at hn8
      have nb5_b8 : b5 ≠ b8 := fun e => nb8_b5 e.symm
      have nb8_b7 : b8 ≠ b7 := fun e => by rw [e] at hn8; simp only [RR, seval, reduceCtorEq] at hn8
      have nb7_b8 : b7 ≠ b8 := fun e => nb8_b7 e.symm
      simp only [RR, seval]
      refine any_plan [(9, 1), (12, 1), (13, 1)] hd (m := 0) rfl (by kernel_rfl) rfl rfl ?_
      simp only [emitF, RR, seval]
      refine awpC_pure' (c2) ?_
      simp only [nb7_b3, nb7_b5, nb8_b3, nb8_b5, nb8_b7, nb7_b8, RR, seval]
      refine any_done (by kernel_rfl) ?_
      simp only [RR, seval]
      exact hKR5 _ _ ⟨b7, b8, rfl, rfl, rfl, (by first | rfl | (simp only [nb5_b7, nb5_b8, upd_app, seval]; done) | (simp only [nb5_b3, nb3_b5, nb7_b3, nb3_b7, nb7_b5, nb5_b7, nb8_b3, nb3_b8, nb8_b5, nb5_b8, nb8_b7, nb7_b8, z0, z1, z2, z3, upd_app, RR, seval]; rfl)), (by first | rfl | (simp only [nb7_b8, upd_app, seval]; done) | (simp only [nb5_b3, nb3_b5, nb7_b3, nb3_b7, nb7_b5, nb5_b7, nb8_b3, nb3_b8, nb8_b5, nb5_b8, nb8_b7, nb7_b8, z0, z1, z2, z3, upd_app, RR, seval]; rfl)), (by first | rfl | (simp only [upd_app, seval]; done) | (simp only [nb5_b3, nb3_b5, nb7_b3, nb3_b7, nb7_b5, nb5_b7, nb8_b3, nb3_b8, nb8_b5, nb5_b8, nb8_b7, nb7_b8, z0, z1, z2, z3, upd_app, RR, seval]; rfl))⟩
    ·simp only [RR, seval]
     refine awpN_intro fun b8 hn8 => ?_
     have nb8_b3 : b8 ≠ b3 := fun e => by rw [e] at hn8; simp only [nb3_b5, RR, seval, reduceCtorEq] at hn8
     have nb3_b8 : b3 ≠ b8 := fun e => nb8_b3 e.symm
     have nb8_b5 : b8 ≠ b5 := fun e => by rw [e] at hn8; simp only [RR, seval, reduceCtorEq] at hn8
     have nb5_b8 : b5 ≠ b8 := fun e => nb8_b5 e.symm
     simp only [RR, seval]
     refine any_branch hd (by kernel_rfl : Region.ready .any _ _ = [9, 10]) (by simp) ⟨?_, ?_, trivial⟩
     ·simp only [RR, seval]
      refine awpC_pure' (c2) ?_
      simp only [RR, seval]
      refine any_plan [(10, 1), (12, 1), (13, 1)] hd (m := 0) rfl (by kernel_rfl) rfl rfl ?_
      simp only [emitF, RR, seval]
      refine awpN_intro fun b7 hn7 => ?_
      have nb7_b3 : b7 ≠ b3 := fun e => by rw [e] at hn7; simp only [nb3_b5, nb3_b8, RR, seval, reduceCtorEq] at hn7
      have nb3_b7 : b3 ≠ b7 := fun e => nb7_b3 e.symm
      have nb7_b5 : b7 ≠ b5 := fun e => by rw [e] at hn7; simp only [nb5_b8, RR, seval, reduceCtorEq] at hn7
      have nb5_b7 : b5 ≠ b7 := fun e => nb7_b5 e.symm
      have nb7_b8 : b7 ≠ b8 := fun e => by rw [e] at hn7; simp only [RR, seval, reduceCtorEq] at hn7
      have nb8_b7 : b8 ≠ b7 := fun e => nb7_b8 e.symm
      simp only [nb8_b3, nb8_b5, nb7_b3, nb7_b5, nb8_b7, RR, seval]
      refine any_done (by kernel_rfl) ?_
      simp only [RR, seval]
      exact hKR5 _ _ ⟨b7, b8, rfl, rfl, rfl, (by first | rfl | (simp only [nb5_b8, nb5_b7, upd_app, seval]; done) | (simp only [nb5_b3, nb3_b5, nb8_b3, nb3_b8, nb8_b5, nb5_b8, nb7_b3, nb3_b7, nb7_b5, nb5_b7, nb7_b8, nb8_b7, z0, z1, z2, z3, upd_app, RR, seval]; rfl)), (by first | rfl | (simp only [nb7_b8, upd_app, seval]; done) | (simp only [nb5_b3, nb3_b5, nb8_b3, nb3_b8, nb8_b5, nb5_b8, nb7_b3, nb3_b7, nb7_b5, nb5_b7, nb7_b8, nb8_b7, z0, z1, z2, z3, upd_app, RR, seval]; rfl)), (by first | rfl | (simp only [upd_app, seval]; done) | (simp only [nb5_b3, nb3_b5, nb8_b3, nb3_b8, nb8_b5, nb5_b8, nb7_b3, nb3_b7, nb7_b5, nb5_b7, nb7_b8, nb8_b7, z0, z1, z2, z3, upd_app, RR, seval]; rfl))⟩
     ·simp only [RR, seval]
      refine awpN_intro fun b7 hn7 => ?_
      have nb7_b3 : b7 ≠ b3 := fun e => by rw [e] at hn7; simp only [nb3_b5, nb3_b8, RR, seval, reduceCtorEq] at hn7
      have nb3_b7 : b3 ≠ b7 := fun e => nb7_b3 e.symm
      have nb7_b5 : b7 ≠ b5 := fun e => by rw [e] at hn7; simp only [nb5_b8, RR, seval, reduceCtorEq] at hn7
      have nb5_b7 : b5 ≠ b7 := fun e => nb7_b5 e.symm
      have nb7_b8 : b7 ≠ b8 := fun e => by rw [e] at hn7; simp only [RR, seval, reduceCtorEq] at hn7
      have nb8_b7 : b8 ≠ b7 := fun e => nb7_b8 e.symm
      simp only [RR, seval]
      refine any_plan [(9, 1), (12, 1), (13, 1)] hd (m := 0) rfl (by kernel_rfl) rfl rfl ?_
      simp only [emitF, RR, seval]
      refine awpC_pure' (c2) ?_
      simp only [nb8_b3, nb8_b5, nb7_b3, nb7_b5, nb8_b7, RR, seval]
      refine any_done (by kernel_rfl) ?_
      simp only [RR, seval]
      exact hKR5 _ _ ⟨b7, b8, rfl, rfl, rfl, (by first | rfl | (simp only [nb5_b8, nb5_b7, upd_app, seval]; done) | (simp only [nb5_b3, nb3_b5, nb8_b3, nb3_b8, nb8_b5, nb5_b8, nb7_b3, nb3_b7, nb7_b5, nb5_b7, nb7_b8, nb8_b7, z0, z1, z2, z3, upd_app, RR, seval]; rfl)), (by first | rfl | (simp only [nb7_b8, upd_app, seval]; done) | (simp only [nb5_b3, nb3_b5, nb8_b3, nb3_b8, nb8_b5, nb5_b8, nb7_b3, nb3_b7, nb7_b5, nb5_b7, nb7_b8, nb8_b7, z0, z1, z2, z3, upd_app, RR, seval]; rfl)), (by first | rfl | (simp only [upd_app, seval]; done) | (simp only [nb5_b3, nb3_b5, nb8_b3, nb3_b8, nb8_b5, nb5_b8, nb7_b3, nb3_b7, nb7_b5, nb5_b7, nb7_b8, nb8_b7, z0, z1, z2, z3, upd_app, RR, seval]; rfl))⟩
   ·simp only [RR, seval]
    refine awpN_intro fun b7 hn7 => ?_
    have nb7_b3 : b7 ≠ b3 := fun e => by rw [e] at hn7; simp only [nb3_b5, RR, seval, reduceCtorEq] at hn7
    have nb3_b7 : b3 ≠ b7 := fun e => nb7_b3 e.symm
    have nb7_b5 : b7 ≠ b5 := fun e => by rw [e] at hn7; simp only [RR, seval, reduceCtorEq] at hn7
    have nb5_b7 : b5 ≠ b7 := fun e => nb7_b5 e.symm
    simp only [RR, seval]
    refine any_branch hd (by kernel_rfl : Region.ready .any _ _ = [4, 11]) (by simp) ⟨?_, ?_, trivial⟩
    ·simp only [RR, seval]
     refine awpC_pure' (c1) ?_
     simp only [RR, seval]
     refine any_branch hd (by kernel_rfl : Region.ready .any _ _ = [9, 11]) (by simp) ⟨?_, ?_, trivial⟩
     ·simp only [RR, seval]
      refine awpC_pure' (c2) ?_
      simp only [RR, seval]
      refine any_plan [(11, 1), (12, 1), (13, 1)] hd (m := 0) rfl (by kernel_rfl) rfl rfl ?_
      simp only [emitF, RR, seval]
      refine awpN_intro fun b8 hn8 => ?_
      have nb8_b3 : b8 ≠ b3 := fun e => by rw [e] at hn8; simp only [nb3_b5, nb3_b7, RR, seval, reduceCtorEq] at hn8
      have nb3_b8 : b3 ≠ b8 := fun e => nb8_b3 e.symm
      have nb8_b5 : b8 ≠ b5 := fun e => by rw [e] at hn8; simp only [nb5_b7, RR, seval, reduceCtorEq] at hn8
      have nb5_b8 : b5 ≠ b8 := fun e => nb8_b5 e.symm
      have nb8_b7 : b8 ≠ b7 := fun e => by rw [e] at hn8; simp only [RR, seval, reduceCtorEq] at hn8
      have nb7_b8 : b7 ≠ b8 := fun e => nb8_b7 e.symm
      simp only [nb7_b3, nb7_b5, nb8_b3, nb8_b5, nb8_b7, nb7_b8, RR, seval]
      refine any_done (by kernel_rfl) ?_
      simp only [RR, seval]
      exact hKR5 _ _ ⟨b7, b8, rfl, rfl, rfl, (by first | rfl | (simp only [nb5_b7, nb5_b8, upd_app, seval]; done) | (simp only [nb5_b3, nb3_b5, nb7_b3, nb3_b7, nb7_b5, nb5_b7, nb8_b3, nb3_b8, nb8_b5, nb5_b8, nb8_b7, nb7_b8, z0, z1, z2, z3, upd_app, RR, seval]; rfl)), (by first | rfl | (simp only [nb7_b8, upd_app, seval]; done) | (simp only [nb5_b3, nb3_b5, nb7_b3, nb3_b7, nb7_b5, nb5_b7, nb8_b3, nb3_b8, nb8_b5, nb5_b8, nb8_b7, nb7_b8, z0, z1, z2, z3, upd_app, RR, seval]; rfl)), (by first | rfl | (simp only [upd_app, seval]; done) | (simp only [nb5_b3, nb3_b5, nb7_b3, nb3_b7, nb7_b5, nb5_b7, nb8_b3, nb3_b8, nb8_b5, nb5_b8, nb8_b7, nb7_b8, z0, z1, z2, z3, upd_app, RR, seval]; rfl))⟩
     ·simp only [RR, seval]
      refine awpN_intro fun b8 hn8 => ?_
      have nb8_b3 : b8 ≠ b3 := fun e => by rw [e] at hn8; simp only [nb3_b5, nb3_b7, RR, seval, reduceCtorEq] at hn8
      have nb3_b8 : b3 ≠ b8 := fun e => nb8_b3 e.symm
      have nb8_b5 : b8 ≠ b5 := fun e => by rw [e] at hn8; simp only [nb5_b7, RR, seval, reduceCtorEq] at hn8
      have nb5_b8 : b5 ≠ b8 := fun e => nb8_b5 e.symm
      have nb8_b7 : b8 ≠ b7 := fun e => by rw [e] at hn8; simp only [RR, seval, reduceCtorEq] at hn8
      have nb7_b8 : b7 ≠ b8 := fun e => nb8_b7 e.symm
      simp only [RR, seval]
      refine any_plan [(9, 1), (12, 1), (13, 1)] hd (m := 0) rfl (by kernel_rfl) rfl rfl ?_
      simp only [emitF, RR, seval]
      refine awpC_pure' (c2) ?_
      simp only [nb7_b3, nb7_b5, nb8_b3, nb8_b5, nb8_b7, nb7_b8, RR, seval]
      refine any_done (by kernel_rfl) ?_
      simp only [RR, seval]
      exact hKR5 _ _ ⟨b7, b8, rfl, rfl, rfl, (by first | rfl | (simp only [nb5_b7, nb5_b8, upd_app, seval]; done) | (simp only [nb5_b3, nb3_b5, nb7_b3, nb3_b7, nb7_b5, nb5_b7, nb8_b3, nb3_b8, nb8_b5, nb5_b8, nb8_b7, nb7_b8, z0, z1, z2, z3, upd_app, RR, seval]; rfl)), (by first | rfl | (simp only [nb7_b8, upd_app, seval]; done) | (simp only [nb5_b3, nb3_b5, nb7_b3, nb3_b7, nb7_b5, nb5_b7, nb8_b3, nb3_b8, nb8_b5, nb5_b8, nb8_b7, nb7_b8, z0, z1, z2, z3, upd_app, RR, seval]; rfl)), (by first | rfl | (simp only [upd_app, seval]; done) | (simp only [nb5_b3, nb3_b5, nb7_b3, nb3_b7, nb7_b5, nb5_b7, nb8_b3, nb3_b8, nb8_b5, nb5_b8, nb8_b7, nb7_b8, z0, z1, z2, z3, upd_app, RR, seval]; rfl))⟩
    ·simp only [RR, seval]
     refine awpN_intro fun b8 hn8 => ?_
     have nb8_b3 : b8 ≠ b3 := fun e => by rw [e] at hn8; simp only [nb3_b5, nb3_b7, RR, seval, reduceCtorEq] at hn8
     have nb3_b8 : b3 ≠ b8 := fun e => nb8_b3 e.symm
     have nb8_b5 : b8 ≠ b5 := fun e => by rw [e] at hn8; simp only [nb5_b7, RR, seval, reduceCtorEq] at hn8
     have nb5_b8 : b5 ≠ b8 := fun e => nb8_b5 e.symm
     have nb8_b7 : b8 ≠ b7 := fun e => by rw [e] at hn8; simp only [RR, seval, reduceCtorEq] at hn8
     have nb7_b8 : b7 ≠ b8 := fun e => nb8_b7 e.symm
     simp only [RR, seval]
     refine any_plan [(4, 1), (9, 1), (12, 1), (13, 1)] hd (m := 0) rfl (by kernel_rfl) rfl rfl ?_
     simp only [emitF, RR, seval]
     refine awpC_pure' (c1) ?_
     simp only [RR, seval]
     refine awpC_pure' (c2) ?_
     simp only [nb7_b3, nb7_b5, nb8_b3, nb8_b5, nb8_b7, nb7_b8, RR, seval]
     refine any_done (by kernel_rfl) ?_
     simp only [RR, seval]
     exact hKR5 _ _ ⟨b7, b8, rfl, rfl, rfl, (by first | rfl | (simp only [nb5_b7, nb5_b8, upd_app, seval]; done) | (simp only [nb5_b3, nb3_b5, nb7_b3, nb3_b7, nb7_b5, nb5_b7, nb8_b3, nb3_b8, nb8_b5, nb5_b8, nb8_b7, nb7_b8, z0, z1, z2, z3, upd_app, RR, seval]; rfl)), (by first | rfl | (simp only [nb7_b8, upd_app, seval]; done) | (simp only [nb5_b3, nb3_b5, nb7_b3, nb3_b7, nb7_b5, nb5_b7, nb8_b3, nb3_b8, nb8_b5, nb5_b8, nb8_b7, nb7_b8, z0, z1, z2, z3, upd_app, RR, seval]; rfl)), (by first | rfl | (simp only [upd_app, seval]; done) | (simp only [nb5_b3, nb3_b5, nb7_b3, nb3_b7, nb7_b5, nb5_b7, nb8_b3, nb3_b8, nb8_b5, nb5_b8, nb8_b7, nb7_b8, z0, z1, z2, z3, upd_app, RR, seval]; rfl))⟩
   ·simp only [RR, seval]
    refine awpN_intro fun b8 hn8 => ?_
    have nb8_b3 : b8 ≠ b3 := fun e => by rw [e] at hn8; simp only [nb3_b5, RR, seval, reduceCtorEq] at hn8
    have nb3_b8 : b3 ≠ b8 := fun e => nb8_b3 e.symm
    have nb8_b5 : b8 ≠ b5 := fun e => by rw [e] at hn8; simp only [RR, seval, reduceCtorEq] at hn8
    have nb5_b8 : b5 ≠ b8 := fun e => nb8_b5 e.symm
    simp only [RR, seval]
    refine any_branch hd (by kernel_rfl : Region.ready .any _ _ = [4, 10]) (by simp) ⟨?_, ?_, trivial⟩
    ·simp only [RR, seval]
     refine awpC_pure' (c1) ?_
     simp only [RR, seval]
     refine any_branch hd (by kernel_rfl : Region.ready .any _ _ = [9, 10]) (by simp) ⟨?_, ?_, trivial⟩
     ·simp only [RR, seval]
      refine awpC_pure' (c2) ?_
      simp only [RR, seval]
      refine any_plan [(10, 1), (12, 1), (13, 1)] hd (m := 0) rfl (by kernel_rfl) rfl rfl ?_
      simp only [emitF, RR, seval]
      refine awpN_intro fun b7 hn7 => ?_
      have nb7_b3 : b7 ≠ b3 := fun e => by rw [e] at hn7; simp only [nb3_b5, nb3_b8, RR, seval, reduceCtorEq] at hn7
      have nb3_b7 : b3 ≠ b7 := fun e => nb7_b3 e.symm
      have nb7_b5 : b7 ≠ b5 := fun e => by rw [e] at hn7; simp only [nb5_b8, RR, seval, reduceCtorEq] at hn7
      have nb5_b7 : b5 ≠ b7 := fun e => nb7_b5 e.symm
      have nb7_b8 : b7 ≠ b8 := fun e => by rw [e] at hn7; simp only [RR, seval, reduceCtorEq] at hn7
      have nb8_b7 : b8 ≠ b7 := fun e => nb7_b8 e.symm
      simp only [nb8_b3, nb8_b5, nb7_b3, nb7_b5, nb8_b7, RR, seval]
      refine any_done (by kernel_rfl) ?_
      simp only [RR, seval]
      exact hKR5 _ _ ⟨b7, b8, rfl, rfl, rfl, (by first | rfl | (simp only [nb5_b8, nb5_b7, upd_app, seval]; done) | (simp only [nb5_b3, nb3_b5, nb8_b3, nb3_b8, nb8_b5, nb5_b8, nb7_b3, nb3_b7, nb7_b5, nb5_b7, nb7_b8, nb8_b7, z0, z1, z2, z3, upd_app, RR, seval]; rfl)), (by first | rfl | (simp only [nb7_b8, upd_app, seval]; done) | (simp only [nb5_b3, nb3_b5, nb8_b3, nb3_b8, nb8_b5, nb5_b8, nb7_b3, nb3_b7, nb7_b5, nb5_b7, nb7_b8, nb8_b7, z0, z1, z2, z3, upd_app, RR, seval]; rfl)), (by first | rfl | (simp only [upd_app, seval]; done) | (simp only [nb5_b3, nb3_b5, nb8_b3, nb3_b8, nb8_b5, nb5_b8, nb7_b3, nb3_b7, nb7_b5, nb5_b7, nb7_b8, nb8_b7, z0, z1, z2, z3, upd_app, RR, seval]; rfl))⟩
     ·simp only [RR, seval]
      refine awpN_intro fun b7 hn7 => ?_
      have nb7_b3 : b7 ≠ b3 := fun e => by rw [e] at hn7; simp only [nb3_b5, nb3_b8, RR, seval, reduceCtorEq] at hn7
      have nb3_b7 : b3 ≠ b7 := fun e => nb7_b3 e.symm
      have nb7_b5 : b7 ≠ b5 := fun e => by rw [e] at hn7; simp only [nb5_b8, RR, seval, reduceCtorEq] at hn7
      have nb5_b7 : b5 ≠ b7 := fun e => nb7_b5 e.symm
      have nb7_b8 : b7 ≠ b8 := fun e => by rw [e] at hn7; simp only [RR, seval, reduceCtorEq] at hn7
      have nb8_b7 : b8 ≠ b7 := fun e => nb7_b8 e.symm
      simp only [RR, seval]
      refine any_plan [(9, 1), (12, 1), (13, 1)] hd (m := 0) rfl (by kernel_rfl) rfl rfl ?_
      simp only [emitF, RR, seval]
      refine awpC_pure' (c2) ?_
      simp only [nb8_b3, nb8_b5, nb7_b3, nb7_b5, nb8_b7, RR, seval]
      refine any_done (by kernel_rfl) ?_
      simp only [RR, seval]
      exact hKR5 _ _ ⟨b7, b8, rfl, rfl, rfl, (by first | rfl | (simp only [nb5_b8, nb5_b7, upd_app, seval]; done) | (simp only [nb5_b3, nb3_b5, nb8_b3, nb3_b8, nb8_b5, nb5_b8, nb7_b3, nb3_b7, nb7_b5, nb5_b7, nb7_b8, nb8_b7, z0, z1, z2, z3, upd_app, RR, seval]; rfl)), (by first | rfl | (simp only [nb7_b8, upd_app, seval]; done) | (simp only [nb5_b3, nb3_b5, nb8_b3, nb3_b8, nb8_b5, nb5_b8, nb7_b3, nb3_b7, nb7_b5, nb5_b7, nb7_b8, nb8_b7, z0, z1, z2, z3, upd_app, RR, seval]; rfl)), (by first | rfl | (simp only [upd_app, seval]; done) | (simp only [nb5_b3, nb3_b5, nb8_b3, nb3_b8, nb8_b5, nb5_b8, nb7_b3, nb3_b7, nb7_b5, nb5_b7, nb7_b8, nb8_b7, z0, z1, z2, z3, upd_app, RR, seval]; rfl))⟩
    ·simp only [RR, seval]
     refine awpN_intro fun b7 hn7 => ?_
     have nb7_b3 : b7 ≠ b3 := fun e => by rw [e] at hn7; simp only [nb3_b5, nb3_b8, RR, seval, reduceCtorEq] at hn7
     have nb3_b7 : b3 ≠ b7 := fun e => nb7_b3 e.symm
     have nb7_b5 : b7 ≠ b5 := fun e => by rw [e] at hn7; simp only [nb5_b8, RR, seval, reduceCtorEq] at hn7
     have nb5_b7 : b5 ≠ b7 := fun e => nb7_b5 e.symm
     have nb7_b8 : b7 ≠ b8 := fun e => by rw [e] at hn7; simp only [RR, seval, reduceCtorEq] at hn7
     have nb8_b7 : b8 ≠ b7 := fun e => nb7_b8 e.symm
     simp only [RR, seval]
     refine any_plan [(4, 1), (9, 1), (12, 1), (13, 1)] hd (m := 0) rfl (by kernel_rfl) rfl rfl ?_
     simp only [emitF, RR, seval]
     refine awpC_pure' (c1) ?_
     simp only [RR, seval]
     refine awpC_pure' (c2) ?_
     simp only [nb8_b3, nb8_b5, nb7_b3, nb7_b5, nb8_b7, RR, seval]
     refine any_done (by kernel_rfl) ?_
     simp only [RR, seval]
     exact hKR5 _ _ ⟨b7, b8, rfl, rfl, rfl, (by first | rfl | (simp only [nb5_b8, nb5_b7, upd_app, seval]; done) | (simp only [nb5_b3, nb3_b5, nb8_b3, nb3_b8, nb8_b5, nb5_b8, nb7_b3, nb3_b7, nb7_b5, nb5_b7, nb7_b8, nb8_b7, z0, z1, z2, z3, upd_app, RR, seval]; rfl)), (by first | rfl | (simp only [nb7_b8, upd_app, seval]; done) | (simp only [nb5_b3, nb3_b5, nb8_b3, nb3_b8, nb8_b5, nb5_b8, nb7_b3, nb3_b7, nb7_b5, nb5_b7, nb7_b8, nb8_b7, z0, z1, z2, z3, upd_app, RR, seval]; rfl)), (by first | rfl | (simp only [upd_app, seval]; done) | (simp only [nb5_b3, nb3_b5, nb8_b3, nb3_b8, nb8_b5, nb5_b8, nb7_b3, nb3_b7, nb7_b5, nb5_b7, nb7_b8, nb8_b7, z0, z1, z2, z3, upd_app, RR, seval]; rfl))⟩
  rintro F1 M1 ⟨b8, b9, f5, f7, f8, hb5, hb8, hb9⟩
  simp only [thenQ_normal]
  refine hK _ _ ?_; clear hK K
  refine awp_seq ?_
  refine awp_seq_k fun K hK => ?_
  refine awp_region rfl ?_
  simp only [f7, hb8, RR, seval]
  refine hK _ _ ?_; clear hK K
  refine awp_if false rfl (fun hc => by cases hc) (fun _ => ?_)
  refine awp_skip ?_; try simp only [RR]
  refine awp_seq_k fun K hK => ?_
  refine awp_region_draw2 (fun x => x ≠ b8 ∧ x ≠ b9 ∧ x ≠ b5) [(0, 3), (1, 1), (2, 3), (3, 1), (4, 3), (5, 3), (6, 3), (7, 1), (8, 3), (9, 1), (10, 3), (11, 3), (12, 3), (13, 3), (14, 1), (15, 3), (16, 1), (17, 3), (18, 3), (19, 3), (20, 3), (21, 1), (22, 3), (23, 3), (24, 1), (25, 3), (26, 3), (27, 3), (28, 3), (29, 3), (30, 1), (31, 3), (32, 1), (33, 3), (34, 3), (35, 3), (36, 1), (37, 3), (38, 3), (39, 3)] [] draws (by kernel_rfl) rfl rfl ?_
  simp only [emitF, f5, f7, f8, hb8, hb9, hb5, Nat.sub_zero, q1, q2, q4, q5, decide_true, RR, seval]
  refine hK _ _ ?_; clear hK K
  refine awp_ret ?_; simp only [bodyQ, aresult, ares, RR, seval]
  refine Gives.pure ?_
  rfl
 ·have h2 := hl.2.1 h5
  have h1 := hl.1
  simp only [Prod.mk.injEq] at h2
  obtain ⟨rfl, rfl, rfl⟩ := h2
  have q3 : decide (x2 = 5) = false := decide_eq_false h5
  have q4 : decide ((t2 : Int) ≤ (n : Int)) = true := decide_eq_true (by omega)
  have hs := rSame_con x2 x2 o2 o2 t2 t2
  have hrb : resB (x2, o2, t2) (x2, o2, t2) = true := by simp [resB]
  rw [hrb] at hs
  clear hl
  rw [hav] at *
  refine con_of 98 [.tmp 6] Tryd.func4 rfl rfl rfl rfl ?_
  refine awp_seq_k fun K hK => ?_
  refine awp_region rfl ?_
  simp only [RR, seval]
  refine awpN_intro fun b3 hn3 => ?_
  simp only [RR, seval]
  refine awpN_intro fun b5 hn5 => ?_
  have nb5_b3 : b5 ≠ b3 := fun e => by rw [e] at hn5; simp only [RR, seval, reduceCtorEq] at hn5
  have nb3_b5 : b3 ≠ b5 := fun e => nb5_b3 e.symm
  simp only [RR, seval]
  refine hK _ _ ?_; clear hK K
  refine awp_seq ?_
  refine awp_seq_k fun K hK => ?_
  refine awp_region rfl ?_
  simp only [RR, seval]
  refine awpC_pure' (alive_con) ?_
  simp only [RR, seval]
  refine hK _ _ ?_; clear hK K
  refine awp_if false rfl (fun hc => by cases hc) (fun _ => ?_)
  refine awp_skip ?_; try simp only [RR]
  refine awp_seq ?_
  refine awp_seq_k fun K hK => ?_
  refine awp_region rfl ?_
  simp only [nb3_b5, RR, seval]
  refine awpC_pure' (hf) ?_
  simp only [z0, z1, z2, z3, RR, seval]
  refine hK _ _ ?_; clear hK K
  refine awp_if false rfl (fun hc => by cases hc) (fun _ => ?_)
  refine awp_skip ?_; try simp only [RR]
  refine awp_seq_k fun K hK => ?_
  refine awp_cutP (fun fr M => ∃ b8 b9, fr 5 = .ptr 2 b5 0 0 ∧ fr 7 = .ptr 3 b8 0 0 ∧ fr 8 = .ptr 3 b9 0 0 ∧ M b5 = some (.rows 2 [[.int .i64 (n : Int), .int .i64 (m : Int)]]) ∧ M b8 = some (.rows 3 [[.int .i64 x2, .str o2, .int .i64 (t2 : Int)]]) ∧ M b9 = some (.rows 3 [[.int .i64 x2, .str o2, .int .i64 (t2 : Int)]])) (fun KR5 hKR5 => ?_) ?_
  ·refine awp_region_any (fun x => x ≠ b3 ∧ x ≠ b5) draws (by kernel_rfl) fun hd => ?_
   refine any_plan [(0, 0), (1, 3), (2, 3), (3, 0), (5, 0), (6, 3), (7, 3), (8, 0)] hd (m := 6) rfl (by kernel_rfl) rfl rfl ?_
   simp only [emitF, markOf, nb5_b3, nb3_b5, RR, seval]
   refine any_branch hd (by kernel_rfl : Region.ready .any _ _ = [4, 10, 11]) (by simp) ⟨?_, ?_, ?_, trivial⟩
   ·simp only [RR, seval]
    refine awpC_pure' (c1) ?_
    simp only [RR, seval]
    refine any_branch hd (by kernel_rfl : Region.ready .any _ _ = [9, 10, 11]) (by simp) ⟨?_, ?_, ?_, trivial⟩
    ·simp only [RR, seval]
     refine awpC_pure' (c2) ?_
     simp only [RR, seval]
     refine any_branch hd (by kernel_rfl : Region.ready .any _ _ = [10, 11]) (by simp) ⟨?_, ?_, trivial⟩
     ·simp only [RR, seval]
      refine awpN_intro fun b7 hn7 => ?_
      have nb7_b3 : b7 ≠ b3 := fun e => by rw [e] at hn7; simp only [nb3_b5, RR, seval, reduceCtorEq] at hn7
      have nb3_b7 : b3 ≠ b7 := fun e => nb7_b3 e.symm
      have nb7_b5 : b7 ≠ b5 := fun e => by rw [e] at hn7; simp only [RR, seval, reduceCtorEq] at hn7
      have nb5_b7 : b5 ≠ b7 := fun e => nb7_b5 e.symm
      simp only [RR, seval]
      refine any_plan [(11, 1), (12, 1), (13, 1)] hd (m := 0) rfl (by kernel_rfl) rfl rfl ?_
      simp only [emitF, RR, seval]
      refine awpN_intro fun b8 hn8 => ?_
      have nb8_b3 : b8 ≠ b3 := fun e => by rw [e] at hn8; simp only [nb3_b5, nb3_b7, RR, seval, reduceCtorEq] at hn8
      have nb3_b8 : b3 ≠ b8 := fun e => nb8_b3 e.symm
      have nb8_b5 : b8 ≠ b5 := fun e => by rw [e] at hn8; simp only [nb5_b7, RR, seval, reduceCtorEq] at hn8
      have nb5_b8 : b5 ≠ b8 := fun e => nb8_b5 e.symm
      have nb8_b7 : b8 ≠ b7 := fun e => by rw [e] at hn8; simp only [RR, seval, reduceCtorEq] at hn8
      have nb7_b8 : b7 ≠ b8 := fun e => nb8_b7 e.symm
      simp only [nb7_b3, nb7_b5, nb8_b3, nb8_b5, nb8_b7, nb7_b8, RR, seval]
      refine any_done (by kernel_rfl) ?_
      simp only [RR, seval]
      exact hKR5 _ _ ⟨b7, b8, rfl, rfl, rfl, (by first | rfl | (simp only [nb5_b7, nb5_b8, upd_app, seval]; done) | (simp only [nb5_b3, nb3_b5, nb7_b3, nb3_b7, nb7_b5, nb5_b7, nb8_b3, nb3_b8, nb8_b5, nb5_b8, nb8_b7, nb7_b8, z0, z1, z2, z3, upd_app, RR, seval]; rfl)), (by first | rfl | (simp only [nb7_b8, upd_app, seval]; done) | (simp only [nb5_b3, nb3_b5, nb7_b3, nb3_b7, nb7_b5, nb5_b7, nb8_b3, nb3_b8, nb8_b5, nb5_b8, nb8_b7, nb7_b8, z0, z1, z2, z3, upd_app, RR, seval]; rfl)), (by first | rfl | (simp only [upd_app, seval]; done) | (simp only [nb5_b3, nb3_b5, nb7_b3, nb3_b7, nb7_b5, nb5_b7, nb8_b3, nb3_b8, nb8_b5, nb5_b8, nb8_b7, nb7_b8, z0, z1, z2, z3, upd_app, RR, seval]; rfl))⟩
     ·simp only [RR, seval]
      refine awpN_intro fun b8 hn8 => ?_
      have nb8_b3 : b8 ≠ b3 := fun e => by rw [e] at hn8; simp only [nb3_b5, RR, seval, reduceCtorEq] at hn8
      have nb3_b8 : b3 ≠ b8 := fun e => nb8_b3 e.symm
      have nb8_b5 : b8 ≠ b5 := fun e => by rw [e] at hn8; simp only [RR, seval, reduceCtorEq] at hn8
      have nb5_b8 : b5 ≠ b8 := fun e => nb8_b5 e.symm
      simp only [RR, seval]
      refine any_plan [(10, 1), (12, 1), (13, 1)] hd (m := 0) rfl (by kernel_rfl) rfl rfl ?_
      simp only [emitF, RR, seval]
      refine awpN_intro fun b7 hn7 => ?_
      have nb7_b3 : b7 ≠ b3 := fun e => by rw [e] at hn7; simp only [nb3_b5, nb3_b8, RR, seval, reduceCtorEq] at hn7
      have nb3_b7 : b3 ≠ b7 := fun e => nb7_b3 e.symm
      have nb7_b5 : b7 ≠ b5 := fun e => by rw [e] at hn7; simp only [nb5_b8, RR, seval, reduceCtorEq] at hn7
      have nb5_b7 : b5 ≠ b7 := fun e => nb7_b5 e.symm
      have nb7_b8 : b7 ≠ b8 := fun e => by rw [e] at hn7; simp only [RR, seval, reduceCtorEq] at hn7
      have nb8_b7 : b8 ≠ b7 := fun e => nb7_b8 e.symm
      simp only [nb8_b3, nb8_b5, nb7_b3, nb7_b5, nb8_b7, RR, seval]
      refine any_done (by kernel_rfl) ?_
      simp only [RR, seval]
      exact hKR5 _ _ ⟨b7, b8, rfl, rfl, rfl, (by first | rfl | (simp only [nb5_b8, nb5_b7, upd_app, seval]; done) | (simp only [nb5_b3, nb3_b5, nb8_b3, nb3_b8, nb8_b5, nb5_b8, nb7_b3, nb3_b7, nb7_b5, nb5_b7, nb7_b8, nb8_b7, z0, z1, z2, z3, upd_app, RR, seval]; rfl)), (by first | rfl | (simp only [nb7_b8, upd_app, seval]; done) | (simp only [nb5_b3, nb3_b5, nb8_b3, nb3_b8, nb8_b5, nb5_b8, nb7_b3, nb3_b7, nb7_b5, nb5_b7, nb7_b8, nb8_b7, z0, z1, z2, z3, upd_app, RR, seval]; rfl)), (by first | rfl | (simp only [upd_app, seval]; done) | (simp only [nb5_b3, nb3_b5, nb8_b3, nb3_b8, nb8_b5, nb5_b8, nb7_b3, nb3_b7, nb7_b5, nb5_b7, nb7_b8, nb8_b7, z0, z1, z2, z3, upd_app, RR, seval]; rfl))⟩
    ·simp only [RR, seval]
     refine awpN_intro fun b7 hn7 => ?_
     have nb7_b3 : b7 ≠ b3 := fun e => by rw [e] at hn7; simp only [nb3_b5, RR, seval, reduceCtorEq] at hn7
     have nb3_b7 : b3 ≠ b7 := fun e => nb7_b3 e.symm
     have nb7_b5 : b7 ≠ b5 := fun e => by rw [e] at hn7; simp only [RR, seval, reduceCtorEq] at hn7
     have nb5_b7 : b5 ≠ b7 := fun e => nb7_b5 e.symm
     simp only [RR, seval]
     refine any_branch hd (by kernel_rfl : Region.ready .any _ _ = [9, 11]) (by simp) ⟨?_, ?_, trivial⟩
     ·simp only [RR, seval]
      refine awpC_pure' (c2) ?_
      simp only [RR, seval]
      refine any_plan [(11, 1), (12, 1), (13, 1)] hd (m := 0) rfl (by kernel_rfl) rfl rfl ?_
      simp only [emitF, RR, seval]
      refine awpN_intro fun b8 hn8 => ?_
      have nb8_b3 : b8 ≠ b3 := fun e => by rw [e] at hn8; simp only [nb3_b5, nb3_b7, RR, seval, reduceCtorEq] at hn8
      have nb3_b8 : b3 ≠ b8 := fun e => nb8_b3 e.symm
      have nb8_b5 : b8 ≠ b5 := fun e => by rw [e] at hn8; simp only [nb5_b7, RR, seval, reduceCtorEq] at hn8
      have nb5_b8 : b5 ≠ b8 := fun e => nb8_b5 e.symm
      have nb8_b7 : b8 ≠ b7 := fun e => by rw [e] at hn8; simp only [RR, seval, reduceCtorEq] at hn8
      have nb7_b8 : b7 ≠ b8 := fun e => nb8_b7 e.symm
      simp only [nb7_b3, nb7_b5, nb8_b3, nb8_b5, nb8_b7, nb7_b8, RR, seval]
      refine any_done (by kernel_rfl) ?_
      simp only [RR, seval]
      exact hKR5 _ _ ⟨b7, b8, rfl, rfl, rfl, (by first | rfl | (simp only [nb5_b7, nb5_b8, upd_app, seval]; done) | (simp only [nb5_b3, nb3_b5, nb7_b3, nb3_b7, nb7_b5, nb5_b7, nb8_b3, nb3_b8, nb8_b5, nb5_b8, nb8_b7, nb7_b8, z0, z1, z2, z3, upd_app, RR, seval]; rfl)), (by first | rfl | (simp only [nb7_b8, upd_app, seval]; done) | (simp only [nb5_b3, nb3_b5, nb7_b3, nb3_b7, nb7_b5, nb5_b7, nb8_b3, nb3_b8, nb8_b5, nb5_b8, nb8_b7, nb7_b8, z0, z1, z2, z3, upd_app, RR, seval]; rfl)), (by first | rfl | (simp only [upd_app, seval]; done) | (simp only [nb5_b3, nb3_b5, nb7_b3, nb3_b7, nb7_b5, nb5_b7, nb8_b3, nb3_b8, nb8_b5, nb5_b8, nb8_b7, nb7_b8, z0, z1, z2, z3, upd_app, RR, seval]; rfl))⟩
     ·simp only [RR, seval]
      refine awpN_intro fun b8 hn8 => ?_
      have nb8_b3 : b8 ≠ b3 := fun e => by rw [e] at hn8; simp only [nb3_b5, nb3_b7, RR, seval, reduceCtorEq] at hn8
      have nb3_b8 : b3 ≠ b8 := fun e => nb8_b3 e.symm
      have nb8_b5 : b8 ≠ b5 := fun e => by rw [e] at hn8; simp only [nb5_b7, RR, seval, reduceCtorEq] at hn8
      have nb5_b8 : b5 ≠ b8 := fun e => nb8_b5 e.symm
      have nb8_b7 : b8 ≠ b7 := fun e => by rw [e] at hn8; simp only [RR, seval, reduceCtorEq] at hn8
      have nb7_b8 : b7 ≠ b8 := fun e => nb8_b7 e.symm
      simp only [RR, seval]
      refine any_plan [(9, 1), (12, 1), (13, 1)] hd (m := 0) rfl (by kernel_rfl) rfl rfl ?_
      simp only [emitF, RR, seval]
      refine awpC_pure' (c2) ?_
      simp only [nb7_b3, nb7_b5, nb8_b3, nb8_b5, nb8_b7, nb7_b8, RR, seval]
      refine any_done (by kernel_rfl) ?_
      simp only [RR, seval]
      exact hKR5 _ _ ⟨b7, b8, rfl, rfl, rfl, (by first | rfl | (simp only [nb5_b7, nb5_b8, upd_app, seval]; done) | (simp only [nb5_b3, nb3_b5, nb7_b3, nb3_b7, nb7_b5, nb5_b7, nb8_b3, nb3_b8, nb8_b5, nb5_b8, nb8_b7, nb7_b8, z0, z1, z2, z3, upd_app, RR, seval]; rfl)), (by first | rfl | (simp only [nb7_b8, upd_app, seval]; done) | (simp only [nb5_b3, nb3_b5, nb7_b3, nb3_b7, nb7_b5, nb5_b7, nb8_b3, nb3_b8, nb8_b5, nb5_b8, nb8_b7, nb7_b8, z0, z1, z2, z3, upd_app, RR, seval]; rfl)), (by first | rfl | (simp only [upd_app, seval]; done) | (simp only [nb5_b3, nb3_b5, nb7_b3, nb3_b7, nb7_b5, nb5_b7, nb8_b3, nb3_b8, nb8_b5, nb5_b8, nb8_b7, nb7_b8, z0, z1, z2, z3, upd_app, RR, seval]; rfl))⟩
    ·simp only [RR, seval]
     refine awpN_intro fun b8 hn8 => ?_
     have nb8_b3 : b8 ≠ b3 := fun e => by rw [e] at hn8; simp only [nb3_b5, RR, seval, reduceCtorEq] at hn8
     have nb3_b8 : b3 ≠ b8 := fun e => nb8_b3 e.symm
     have nb8_b5 : b8 ≠ b5 := fun e => by rw [e] at hn8; simp only [RR, seval, reduceCtorEq] at hn8
     have nb5_b8 : b5 ≠ b8 := fun e => nb8_b5 e.symm
     simp only [RR, seval]
     refine any_branch hd (by kernel_rfl : Region.ready .any _ _ = [9, 10]) (by simp) ⟨?_, ?_, trivial⟩
     ·simp only [RR, seval]
      refine awpC_pure' (c2) ?_
      simp only [RR, seval]
      refine any_plan [(10, 1), (12, 1), (13, 1)] hd (m := 0) rfl (by kernel_rfl) rfl rfl ?_
      simp only [emitF, RR, seval]
      refine awpN_intro fun b7 hn7 => ?_
      have nb7_b3 : b7 ≠ b3 := fun e => by rw [e] at hn7; simp only [nb3_b5, nb3_b8, RR, seval, reduceCtorEq] at hn7
      have nb3_b7 : b3 ≠ b7 := fun e => nb7_b3 e.symm
      have nb7_b5 : b7 ≠ b5 := fun e => by rw [e] at hn7; simp only [nb5_b8, RR, seval, reduceCtorEq] at hn7
      have nb5_b7 : b5 ≠ b7 := fun e => nb7_b5 e.symm
      have nb7_b8 : b7 ≠ b8 := fun e => by rw [e] at hn7; simp only [RR, seval, reduceCtorEq] at hn7
      have nb8_b7 : b8 ≠ b7 := fun e => nb7_b8 e.symm
      simp only [nb8_b3, nb8_b5, nb7_b3, nb7_b5, nb8_b7, RR, seval]
      refine any_done (by kernel_rfl) ?_
      simp only [RR, seval]
      exact hKR5 _ _ ⟨b7, b8, rfl, rfl, rfl, (by first | rfl | (simp only [nb5_b8, nb5_b7, upd_app, seval]; done) | (simp only [nb5_b3, nb3_b5, nb8_b3, nb3_b8, nb8_b5, nb5_b8, nb7_b3, nb3_b7, nb7_b5, nb5_b7, nb7_b8, nb8_b7, z0, z1, z2, z3, upd_app, RR, seval]; rfl)), (by first | rfl | (simp only [nb7_b8, upd_app, seval]; done) | (simp only [nb5_b3, nb3_b5, nb8_b3, nb3_b8, nb8_b5, nb5_b8, nb7_b3, nb3_b7, nb7_b5, nb5_b7, nb7_b8, nb8_b7, z0, z1, z2, z3, upd_app, RR, seval]; rfl)), (by first | rfl | (simp only [upd_app, seval]; done) | (simp only [nb5_b3, nb3_b5, nb8_b3, nb3_b8, nb8_b5, nb5_b8, nb7_b3, nb3_b7, nb7_b5, nb5_b7, nb7_b8, nb8_b7, z0, z1, z2, z3, upd_app, RR, seval]; rfl))⟩
     ·simp only [RR, seval]
      refine awpN_intro fun b7 hn7 => ?_
      have nb7_b3 : b7 ≠ b3 := fun e => by rw [e] at hn7; simp only [nb3_b5, nb3_b8, RR, seval, reduceCtorEq] at hn7
      have nb3_b7 : b3 ≠ b7 := fun e => nb7_b3 e.symm
      have nb7_b5 : b7 ≠ b5 := fun e => by rw [e] at hn7; simp only [nb5_b8, RR, seval, reduceCtorEq] at hn7
      have nb5_b7 : b5 ≠ b7 := fun e => nb7_b5 e.symm
      have nb7_b8 : b7 ≠ b8 := fun e => by rw [e] at hn7; simp only [RR, seval, reduceCtorEq] at hn7
      have nb8_b7 : b8 ≠ b7 := fun e => nb7_b8 e.symm
      simp only [RR, seval]
      refine any_plan [(9, 1), (12, 1), (13, 1)] hd (m := 0) rfl (by kernel_rfl) rfl rfl ?_
      simp only [emitF, RR, seval]
      refine awpC_pure' (c2) ?_
      simp only [nb8_b3, nb8_b5, nb7_b3, nb7_b5, nb8_b7, RR, seval]
      refine any_done (by kernel_rfl) ?_
      simp only [RR, seval]
      exact hKR5 _ _ ⟨b7, b8, rfl, rfl, rfl, (by first | rfl | (simp only [nb5_b8, nb5_b7, upd_app, seval]; done) | (simp only [nb5_b3, nb3_b5, nb8_b3, nb3_b8, nb8_b5, nb5_b8, nb7_b3, nb3_b7, nb7_b5, nb5_b7, nb7_b8, nb8_b7, z0, z1, z2, z3, upd_app, RR, seval]; rfl)), (by first | rfl | (simp only [nb7_b8, upd_app, seval]; done) | (simp only [nb5_b3, nb3_b5, nb8_b3, nb3_b8, nb8_b5, nb5_b8, nb7_b3, nb3_b7, nb7_b5, nb5_b7, nb7_b8, nb8_b7, z0, z1, z2, z3, upd_app, RR, seval]; rfl)), (by first | rfl | (simp only [upd_app, seval]; done) | (simp only [nb5_b3, nb3_b5, nb8_b3, nb3_b8, nb8_b5, nb5_b8, nb7_b3, nb3_b7, nb7_b5, nb5_b7, nb7_b8, nb8_b7, z0, z1, z2, z3, upd_app, RR, seval]; rfl))⟩
   ·simp only [RR, seval]
    refine awpN_intro fun b7 hn7 => ?_
    have nb7_b3 : b7 ≠ b3 := fun e => by rw [e] at hn7; simp only [nb3_b5, RR, seval, reduceCtorEq] at hn7
    have nb3_b7 : b3 ≠ b7 := fun e => nb7_b3 e.symm
    have nb7_b5 : b7 ≠ b5 := fun e => by rw [e] at hn7; simp only [RR, seval, reduceCtorEq] at hn7
    have nb5_b7 : b5 ≠ b7 := fun e => nb7_b5 e.symm
    simp only [RR, seval]
    refine any_branch hd (by kernel_rfl : Region.ready .any _ _ = [4, 11]) (by simp) ⟨?_, ?_, trivial⟩
    ·simp only [RR, seval]
     refine awpC_pure' (c1) ?_
     simp only [RR, seval]
     refine any_branch hd (by kernel_rfl : Region.ready .any _ _ = [9, 11]) (by simp) ⟨?_, ?_, trivial⟩
     ·simp only [RR, seval]
      refine awpC_pure' (c2) ?_
      simp only [RR, seval]
      refine any_plan [(11, 1), (12, 1), (13, 1)] hd (m := 0) rfl (by kernel_rfl) rfl rfl ?_
      simp only [emitF, RR, seval]
      refine awpN_intro fun b8 hn8 => ?_
      have nb8_b3 : b8 ≠ b3 := fun e => by rw [e] at hn8; simp only [nb3_b5, nb3_b7, RR, seval, reduceCtorEq] at hn8
      have nb3_b8 : b3 ≠ b8 := fun e => nb8_b3 e.symm
      have nb8_b5 : b8 ≠ b5 := fun e => by rw [e] at hn8; simp only [nb5_b7, RR, seval, reduceCtorEq] at hn8
      have nb5_b8 : b5 ≠ b8 := fun e => nb8_b5 e.symm
      have nb8_b7 : b8 ≠ b7 := fun e => by rw [e] at hn8; simp only [RR, seval, reduceCtorEq] at hn8
      have nb7_b8 : b7 ≠ b8 := fun e => nb8_b7 e.symm
      simp only [nb7_b3, nb7_b5, nb8_b3, nb8_b5, nb8_b7, nb7_b8, RR, seval]
      refine any_done (by kernel_rfl) ?_
      simp only [RR, seval]
      exact hKR5 _ _ ⟨b7, b8, rfl, rfl, rfl, (by first | rfl | (simp only [nb5_b7, nb5_b8, upd_app, seval]; done) | (simp only [nb5_b3, nb3_b5, nb7_b3, nb3_b7, nb7_b5, nb5_b7, nb8_b3, nb3_b8, nb8_b5, nb5_b8, nb8_b7, nb7_b8, z0, z1, z2, z3, upd_app, RR, seval]; rfl)), (by first | rfl | (simp only [nb7_b8, upd_app, seval]; done) | (simp only [nb5_b3, nb3_b5, nb7_b3, nb3_b7, nb7_b5, nb5_b7, nb8_b3, nb3_b8, nb8_b5, nb5_b8, nb8_b7, nb7_b8, z0, z1, z2, z3, upd_app, RR, seval]; rfl)), (by first | rfl | (simp only [upd_app, seval]; done) | (simp only [nb5_b3, nb3_b5, nb7_b3, nb3_b7, nb7_b5, nb5_b7, nb8_b3, nb3_b8, nb8_b5, nb5_b8, nb8_b7, nb7_b8, z0, z1, z2, z3, upd_app, RR, seval]; rfl))⟩
     ·simp only [RR, seval]
      refine awpN_intro fun b8 hn8 => ?_
      have nb8_b3 : b8 ≠ b3 := fun e => by rw [e] at hn8; simp only [nb3_b5, nb3_b7, RR, seval, reduceCtorEq] at hn8
      have nb3_b8 : b3 ≠ b8 := fun e => nb8_b3 e.symm
      have nb8_b5 : b8 ≠ b5 := fun e => by rw [e] at hn8; simp only [nb5_b7, RR, seval, reduceCtorEq] at hn8
      have nb5_b8 : b5 ≠ b8 := fun e => nb8_b5 e.symm
      have nb8_b7 : b8 ≠ b7 := fun e => by rw [e] at hn8; simp only [RR, seval, reduceCtorEq] at hn8
      have nb7_b8 : b7 ≠ b8 := fun e => nb8_b7 e.symm
      simp only [RR, seval]
      refine any_plan [(9, 1), (12, 1), (13, 1)] hd (m := 0) rfl (by kernel_rfl) rfl rfl ?_
      simp only [emitF, RR, seval]
      refine awpC_pure' (c2) ?_
      simp only [nb7_b3, nb7_b5, nb8_b3, nb8_b5, nb8_b7, nb7_b8, RR, seval]
      refine any_done (by kernel_rfl) ?_
      simp only [RR, seval]
      exact hKR5 _ _ ⟨b7, b8, rfl, rfl, rfl, (by first | rfl | (simp only [nb5_b7, nb5_b8, upd_app, seval]; done) | (simp only [nb5_b3, nb3_b5, nb7_b3, nb3_b7, nb7_b5, nb5_b7, nb8_b3, nb3_b8, nb8_b5, nb5_b8, nb8_b7, nb7_b8, z0, z1, z2, z3, upd_app, RR, seval]; rfl)), (by first | rfl | (simp only [nb7_b8, upd_app, seval]; done) | (simp only [nb5_b3, nb3_b5, nb7_b3, nb3_b7, nb7_b5, nb5_b7, nb8_b3, nb3_b8, nb8_b5, nb5_b8, nb8_b7, nb7_b8, z0, z1, z2, z3, upd_app, RR, seval]; rfl)), (by first | rfl | (simp only [upd_app, seval]; done) | (simp only [nb5_b3, nb3_b5, nb7_b3, nb3_b7, nb7_b5, nb5_b7, nb8_b3, nb3_b8, nb8_b5, nb5_b8, nb8_b7, nb7_b8, z0, z1, z2, z3, upd_app, RR, seval]; rfl))⟩
    ·simp only [RR, seval]
     refine awpN_intro fun b8 hn8 => ?_
     have nb8_b3 : b8 ≠ b3 := fun e => by rw [e] at hn8; simp only [nb3_b5, nb3_b7, RR, seval, reduceCtorEq] at hn8
     have nb3_b8 : b3 ≠ b8 := fun e => nb8_b3 e.symm
     have nb8_b5 : b8 ≠ b5 := fun e => by rw [e] at hn8; simp only [nb5_b7, RR, seval, reduceCtorEq] at hn8
     have nb5_b8 : b5 ≠ b8 := fun e => nb8_b5 e.symm
     have nb8_b7 : b8 ≠ b7 := fun e => by rw [e] at hn8; simp only [RR, seval, reduceCtorEq] at hn8
     have nb7_b8 : b7 ≠ b8 := fun e => nb8_b7 e.symm
     simp only [RR, seval]
     refine any_plan [(4, 1), (9, 1), (12, 1), (13, 1)] hd (m := 0) rfl (by kernel_rfl) rfl rfl ?_
     simp only [emitF, RR, seval]
     refine awpC_pure' (c1) ?_
     simp only [RR, seval]
     refine awpC_pure' (c2) ?_
     simp only [nb7_b3, nb7_b5, nb8_b3, nb8_b5, nb8_b7, nb7_b8, RR, seval]
     refine any_done (by kernel_rfl) ?_
     simp only [RR, seval]
     exact hKR5 _ _ ⟨b7, b8, rfl, rfl, rfl, (by first | rfl | (simp only [nb5_b7, nb5_b8, upd_app, seval]; done) | (simp only [nb5_b3, nb3_b5, nb7_b3, nb3_b7, nb7_b5, nb5_b7, nb8_b3, nb3_b8, nb8_b5, nb5_b8, nb8_b7, nb7_b8, z0, z1, z2, z3, upd_app, RR, seval]; rfl)), (by first | rfl | (simp only [nb7_b8, upd_app, seval]; done) | (simp only [nb5_b3, nb3_b5, nb7_b3, nb3_b7, nb7_b5, nb5_b7, nb8_b3, nb3_b8, nb8_b5, nb5_b8, nb8_b7, nb7_b8, z0, z1, z2, z3, upd_app, RR, seval]; rfl)), (by first | rfl | (simp only [upd_app, seval]; done) | (simp only [nb5_b3, nb3_b5, nb7_b3, nb3_b7, nb7_b5, nb5_b7, nb8_b3, nb3_b8, nb8_b5, nb5_b8, nb8_b7, nb7_b8, z0, z1, z2, z3, upd_app, RR, seval]; rfl))⟩
   ·simp only [RR, seval]
    refine awpN_intro fun b8 hn8 => ?_
    have nb8_b3 : b8 ≠ b3 := fun e => by rw [e] at hn8; simp only [nb3_b5, RR, seval, reduceCtorEq] at hn8
    have nb3_b8 : b3 ≠ b8 := fun e => nb8_b3 e.symm
    have nb8_b5 : b8 ≠ b5 := fun e => by rw [e] at hn8; simp only [RR, seval, reduceCtorEq] at hn8
    have nb5_b8 : b5 ≠ b8 := fun e => nb8_b5 e.symm
    simp only [RR, seval]
    refine any_branch hd (by kernel_rfl : Region.ready .any _ _ = [4, 10]) (by simp) ⟨?_, ?_, trivial⟩
    ·simp only [RR, seval]
     refine awpC_pure' (c1) ?_
     simp only [RR, seval]
     refine any_branch hd (by kernel_rfl : Region.ready .any _ _ = [9, 10]) (by simp) ⟨?_, ?_, trivial⟩
     ·simp only [RR, seval]
      refine awpC_pure' (c2) ?_
      simp only [RR, seval]
      refine any_plan [(10, 1), (12, 1), (13, 1)] hd (m := 0) rfl (by kernel_rfl) rfl rfl ?_
      simp only [emitF, RR, seval]
      refine awpN_intro fun b7 hn7 => ?_
      have nb7_b3 : b7 ≠ b3 := fun e => by rw [e] at hn7; simp only [nb3_b5, nb3_b8, RR, seval, reduceCtorEq] at hn7
      have nb3_b7 : b3 ≠ b7 := fun e => nb7_b3 e.symm
      have nb7_b5 : b7 ≠ b5 := fun e => by rw [e] at hn7; simp only [nb5_b8, RR, seval, reduceCtorEq] at hn7
      have nb5_b7 : b5 ≠ b7 := fun e => nb7_b5 e.symm
      have nb7_b8 : b7 ≠ b8 := fun e => by rw [e] at hn7; simp only [RR, seval, reduceCtorEq] at hn7
      have nb8_b7 : b8 ≠ b7 := fun e => nb7_b8 e.symm
      simp only [nb8_b3, nb8_b5, nb7_b3, nb7_b5, nb8_b7, RR, seval]
      refine any_done (by kernel_rfl) ?_
      simp only [RR, seval]
      exact hKR5 _ _ ⟨b7, b8, rfl, rfl, rfl, (by first | rfl | (simp only [nb5_b8, nb5_b7, upd_app, seval]; done) | (simp only [nb5_b3, nb3_b5, nb8_b3, nb3_b8, nb8_b5, nb5_b8, nb7_b3, nb3_b7, nb7_b5, nb5_b7, nb7_b8, nb8_b7, z0, z1, z2, z3, upd_app, RR, seval]; rfl)), (by first | rfl | (simp only [nb7_b8, upd_app, seval]; done) | (simp only [nb5_b3, nb3_b5, nb8_b3, nb3_b8, nb8_b5, nb5_b8, nb7_b3, nb3_b7, nb7_b5, nb5_b7, nb7_b8, nb8_b7, z0, z1, z2, z3, upd_app, RR, seval]; rfl)), (by first | rfl | (simp only [upd_app, seval]; done) | (simp only [nb5_b3, nb3_b5, nb8_b3, nb3_b8, nb8_b5, nb5_b8, nb7_b3, nb3_b7, nb7_b5, nb5_b7, nb7_b8, nb8_b7, z0, z1, z2, z3, upd_app, RR, seval]; rfl))⟩
     ·simp only [RR, seval]
      refine awpN_intro fun b7 hn7 => ?_
      have nb7_b3 : b7 ≠ b3 := fun e => by rw [e] at hn7; simp only [nb3_b5, nb3_b8, RR, seval, reduceCtorEq] at hn7
      have nb3_b7 : b3 ≠ b7 := fun e => nb7_b3 e.symm
      have nb7_b5 : b7 ≠ b5 := fun e => by rw [e] at hn7; simp only [nb5_b8, RR, seval, reduceCtorEq] at hn7
      have nb5_b7 : b5 ≠ b7 := fun e => nb7_b5 e.symm
      have nb7_b8 : b7 ≠ b8 := fun e => by rw [e] at hn7; simp only [RR, seval, reduceCtorEq] at hn7
      have nb8_b7 : b8 ≠ b7 := fun e => nb7_b8 e.symm
      simp only [RR, seval]
      refine any_plan [(9, 1), (12, 1), (13, 1)] hd (m := 0) rfl (by kernel_rfl) rfl rfl ?_
      simp only [emitF, RR, seval]
      refine awpC_pure' (c2) ?_
      simp only [nb8_b3, nb8_b5, nb7_b3, nb7_b5, nb8_b7, RR, seval]
      refine any_done (by kernel_rfl) ?_
      simp only [RR, seval]
      exact hKR5 _ _ ⟨b7, b8, rfl, rfl, rfl, (by first | rfl | (simp only [nb5_b8, nb5_b7, upd_app, seval]; done) | (simp only [nb5_b3, nb3_b5, nb8_b3, nb3_b8, nb8_b5, nb5_b8, nb7_b3, nb3_b7, nb7_b5, nb5_b7, nb7_b8, nb8_b7, z0, z1, z2, z3, upd_app, RR, seval]; rfl)), (by first | rfl | (simp only [nb7_b8, upd_app, seval]; done) | (simp only [nb5_b3, nb3_b5, nb8_b3, nb3_b8, nb8_b5, nb5_b8, nb7_b3, nb3_b7, nb7_b5, nb5_b7, nb7_b8, nb8_b7, z0, z1, z2, z3, upd_app, RR, seval]; rfl)), (by first | rfl | (simp only [upd_app, seval]; done) | (simp only [nb5_b3, nb3_b5, nb8_b3, nb3_b8, nb8_b5, nb5_b8, nb7_b3, nb3_b7, nb7_b5, nb5_b7, nb7_b8, nb8_b7, z0, z1, z2, z3, upd_app, RR, seval]; rfl))⟩
    ·simp only [RR, seval]
     refine awpN_intro fun b7 hn7 => ?_
     have nb7_b3 : b7 ≠ b3 := fun e => by rw [e] at hn7; simp only [nb3_b5, nb3_b8, RR, seval, reduceCtorEq] at hn7
     have nb3_b7 : b3 ≠ b7 := fun e => nb7_b3 e.symm
     have nb7_b5 : b7 ≠ b5 := fun e => by rw [e] at hn7; simp only [nb5_b8, RR, seval, reduceCtorEq] at hn7
     have nb5_b7 : b5 ≠ b7 := fun e => nb7_b5 e.symm
     have nb7_b8 : b7 ≠ b8 := fun e => by rw [e] at hn7; simp only [RR, seval, reduceCtorEq] at hn7
     have nb8_b7 : b8 ≠ b7 := fun e => nb7_b8 e.symm
     simp only [RR, seval]
     refine any_plan [(4, 1), (9, 1), (12, 1), (13, 1)] hd (m := 0) rfl (by kernel_rfl) rfl rfl ?_
     simp only [emitF, RR, seval]
     refine awpC_pure' (c1) ?_
     simp only [RR, seval]
     refine awpC_pure' (c2) ?_
     simp only [nb8_b3, nb8_b5, nb7_b3, nb7_b5, nb8_b7, RR, seval]
     refine any_done (by kernel_rfl) ?_
     simp only [RR, seval]
     exact hKR5 _ _ ⟨b7, b8, rfl, rfl, rfl, (by first | rfl | (simp only [nb5_b8, nb5_b7, upd_app, seval]; done) | (simp only [nb5_b3, nb3_b5, nb8_b3, nb3_b8, nb8_b5, nb5_b8, nb7_b3, nb3_b7, nb7_b5, nb5_b7, nb7_b8, nb8_b7, z0, z1, z2, z3, upd_app, RR, seval]; rfl)), (by first | rfl | (simp only [nb7_b8, upd_app, seval]; done) | (simp only [nb5_b3, nb3_b5, nb8_b3, nb3_b8, nb8_b5, nb5_b8, nb7_b3, nb3_b7, nb7_b5, nb5_b7, nb7_b8, nb8_b7, z0, z1, z2, z3, upd_app, RR, seval]; rfl)), (by first | rfl | (simp only [upd_app, seval]; done) | (simp only [nb5_b3, nb3_b5, nb8_b3, nb3_b8, nb8_b5, nb5_b8, nb7_b3, nb3_b7, nb7_b5, nb5_b7, nb7_b8, nb8_b7, z0, z1, z2, z3, upd_app, RR, seval]; rfl))⟩
  rintro F1 M1 ⟨b8, b9, f5, f7, f8, hb5, hb8, hb9⟩
  simp only [thenQ_normal]
  refine hK _ _ ?_; clear hK K
  refine awp_seq ?_
  refine awp_seq_k fun K hK => ?_
  refine awp_region rfl ?_
  simp only [f7, hb8, q3, RR, seval]
  refine hK _ _ ?_; clear hK K
  refine awp_if true rfl (fun _ => ?_) (fun hc => by cases hc)
  refine awp_seq_k fun K hK => ?_
  refine awp_region rfl ?_
  simp only [f7, f8, hb8, hb9, RR, seval]
  refine awpC_pure' (hs) ?_
  simp only [f5, f7, hb8, hb5, q4, RR, seval]
  refine hK _ _ ?_; clear hK K
  refine awp_ret ?_; simp only [bodyQ, aresult, ares, Option.map_some, RR, seval]
  refine Gives.pure ?_
  rfl
end Go.Proofs.YtnfbbjhdflhmjaaDoor
