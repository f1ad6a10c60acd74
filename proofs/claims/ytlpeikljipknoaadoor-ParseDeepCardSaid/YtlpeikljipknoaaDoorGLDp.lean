/- Chapter 15: ParseDeep: the law's contract. -/
import Derived.Test.YtlpeikljipknoaaDoorGDp
set_option linter.unusedSimpArgs false
set_option linter.unusedVariables false
set_option maxRecDepth 10000
namespace Go.Proofs.YtlpeikljipknoaaDoor
open Go.Al
set_option maxHeartbeats 4000000 in
theorem ParseDeep_con (n : Int) (hn : 0 ≤ n ∧ n ≤ 255) : PCon env 9 [.int .u8 n] (.bool true) := by
  obtain ⟨a, rfl⟩ : ∃ a : Nat, n = a := ⟨n.toNat, by omega⟩
  have z1 : IntKind.wrap .i64 (a : Int) = (a : Int) := by rw [IntWalk.i64_in _ (by omega)]
  have t1 : (a : Int).tmod 40 = ((a % 40 : Nat) : Int) := IntWalk.up_tmod rfl rfl
  have hk : a % 40 < 40 := Nat.mod_lt _ (by omega)
  generalize a % 40 = k at t1 hk
  obtain ⟨⟨e, hE⟩, ⟨p, hP⟩⟩ := deep_src hk
  have c1 := pExpr_con (bangS k) (by rw [bang_len]; omega)
  have c2 := pProg_con (deepT k) (by rw [deepT_len]; omega)
  rw [hE] at c1
  rw [hP] at c2
  have z2 : IntKind.wrap .i64 ((k : Int) + 2) = ((k + 2 : Nat) : Int) := by rw [IntWalk.i64_in _ (by omega)]; omega
  have hl1 := fun j => bang_len j
  have hl2 := fun j => ifS_len j
  have hl3 := fun s j => endS_len s j
  by_cases hk2 : k + 2 ≤ 24
  · have hd : decide (((k + 2 : Nat) : Int) ≤ 24) = true := decide_eq_true (by omega)
    rw [if_pos hk2] at c1 c2
    simp only [resE, resP, Ex.row_eq, Pg.av, Pg.row, deepT] at c1 c2
    refine con_of 82 [.tmp 2] Tryd.func9 rfl rfl rfl rfl ?_
    refine awp_seq_k fun K hK => ?_
    refine awp_region rfl ?_
    simp only [z1, t1, z2, hd, RR, seval]
    refine hK _ _ ?_; clear hK K
    refine awp_seq_k fun K hK => ?_
    refine awp_region rfl ?_
    simp only [z1, t1, z2, hd, RR, seval]
    refine hK _ _ ?_; clear hK K
    refine awp_seq_k fun K hK => ?_
    refine awp_region rfl ?_
    simp only [z1, t1, z2, hd, RR, seval]
    refine hK _ _ ?_; clear hK K
    refine awp_seq ?_
    refine awp_seq_k fun K hK => ?_
    refine awp_region rfl ?_
    simp only [z1, t1, z2, hd, RR, seval]
    refine hK _ _ ?_; clear hK K
    refine awp_name fun F1 M1 hfr hH => ?_
    have g2 := hfr 2
    have g3 := hfr 3
    have g4 := hfr 4
    have g5 := hfr 5
    have g6 := hfr 6
    try simp only [z1, t1, z2, hd, RR, seval] at g2 g3 g4 g5 g6
    have f2 := g2; clear g2
    have f3 := g3; clear g3
    have f4 := g4; clear g4
    have f5 := g5; clear g5
    have f6 := g6; clear g6
    clear hfr hH
    refine awp_block ?_
    refine awp_each [2, 3] (k) (fun j fr M => fr 6 = .int .i64 (j : Nat) ∧ fr 4 = .str (bangS j) ∧ fr 5 = .str (ifS j)) ⟨f6, f4, f5⟩ ?_
    rintro j F2 M2 hk0 ⟨fx, f4, f5⟩ agx K0 hK0
    have f2 := (agx 2 rfl).trans f2
    have f3 := (agx 3 rfl).trans f3
    have f6 := fx; clear fx
    have ag0 := agree.refl [2, 3] F2
    clear agx
    refine awp_seq ?_
    refine awp_seq_k fun K hK => ?_
    refine awp_region rfl ?_
    simp only [f3, f6, z1, t1, z2, hd, RR, seval]
    refine hK _ _ ?_; clear hK K
    refine awp_if _ rfl (fun hc => ?_) (fun hc => ?_)
    · have hlt0 : j < k := by have := of_decide_eq_true hc; omega
      clear hc
      have q1 := hl1 j
      have q2 := hl2 j
      refine awp_skip ?_; try simp only [RR]
      refine awp_seq ?_
      refine awp_block ?_
      have hcat3 : 1 + (bangS j).length ≤ maxLen := by unfold maxLen; (try simp only [List.length_append, List.length_cons, List.length_nil]); omega
      refine awp_seq_k fun K hK => ?_
      refine awp_region rfl ?_
      simp only [f4, z1, t1, z2, hd, hcat3, RR, seval]
      refine hK _ _ ?_; clear hK K
      have hcat4 : (ifS j).length + 13 ≤ maxLen := by unfold maxLen; (try simp only [List.length_append, List.length_cons, List.length_nil]); omega
      refine awp_region rfl ?_
      simp only [f5, z1, t1, z2, hd, hcat3, hcat4, RR, seval]
      refine awp_region rfl ?_
      simp only [f6, z1, t1, z2, hd, hcat3, hcat4, RR, seval]
      try rw [IntWalk.i64_in _ (by omega)]
      refine hK0 _ _ hlt0 ⟨by first | rfl | (simp only [upd_app, seval]; rfl), rfl, rfl⟩ (by repeat (first | exact ag0 | refine agree.upd rfl ?_))
    · have hkn0 : j = k := by have := of_decide_eq_false hc; omega
      clear hc
      rw [hkn0] at f4 f5
      have q2 := hl2 k
      refine awp_exit ?_; simp only [RR, seval]
      have hcat5 : 14 + (ifS k).length ≤ maxLen := by unfold maxLen; (try simp only [List.length_append, List.length_cons, List.length_nil]); omega
      have hcat6 : (ifS k).length + 1 + 1 + 1 + 1 + 1 + 1 + 1 + 1 + 1 + 1 + 1 + 1 + 1 + 1 + 7 ≤ maxLen := by unfold maxLen; (try simp only [List.length_append, List.length_cons, List.length_nil]); omega
      refine awp_seq_k fun K hK => ?_
      refine awp_region rfl ?_
      simp only [f5, z1, t1, z2, hd, hcat5, hcat6, RR, seval]
      refine hK _ _ ?_; clear hK K
      refine awp_seq ?_
      refine awp_seq_k fun K hK => ?_
      refine awp_region rfl ?_
      simp only [z1, t1, z2, hd, hcat5, hcat6, RR, seval]
      refine hK _ _ ?_; clear hK K
      refine awp_name fun F7 M7 hfr hH => ?_
      have g2 := hfr 2
      have g3 := hfr 3
      have g4 := hfr 4
      have g5 := hfr 5
      have g7 := hfr 7
      try simp only [f2, f3, f6, f4, f5, z1, t1, z2, hd, hcat5, hcat6, RR, seval] at g2 g3 g4 g5 g7
      have f2 := g2; clear g2
      have f3 := g3; clear g3
      have f4 := g4; clear g4
      have f5 := g5; clear g5
      have f7 := g7; clear g7
      clear hfr hH
      refine awp_block ?_
      refine awp_each [2, 3, 4] (k) (fun i fr M => fr 7 = .int .i64 (i : Nat) ∧ fr 5 = .str (endS ([102, 117, 110, 99, 32, 109, 97, 105, 110, 40, 41, 32, 123, 32] ++ ifS k ++ [112, 117, 116, 40, 49, 41, 59]) i)) ⟨f7, (by rw [f5]; rfl)⟩ ?_
      rintro i F8 M8 hk2 ⟨fx, f5⟩ agx K2 hK2
      have f2 := (agx 2 rfl).trans f2
      have f3 := (agx 3 rfl).trans f3
      have f4 := (agx 4 rfl).trans f4
      have f7 := fx; clear fx
      have ag2 := agree.refl [2, 3, 4] F8
      clear agx
      refine awp_seq ?_
      refine awp_seq_k fun K hK => ?_
      refine awp_region rfl ?_
      simp only [f3, f7, z1, t1, z2, hd, hcat5, hcat6, RR, seval]
      refine hK _ _ ?_; clear hK K
      refine awp_if _ rfl (fun hc => ?_) (fun hc => ?_)
      · have hlt2 : i < k := by have := of_decide_eq_true hc; omega
        clear hc
        have q3 := hl3 ([102, 117, 110, 99, 32, 109, 97, 105, 110, 40, 41, 32, 123, 32] ++ ifS k ++ [112, 117, 116, 40, 49, 41, 59]) i
        simp only [List.length_append, List.length_cons, List.length_nil] at q3
        generalize hE0 : endS ([102, 117, 110, 99, 32, 109, 97, 105, 110, 40, 41, 32, 123, 32] ++ ifS k ++ [112, 117, 116, 40, 49, 41, 59]) i = E0 at *
        refine awp_skip ?_; try simp only [RR]
        refine awp_seq ?_
        refine awp_block ?_
        have hcat9 : (E0).length + 2 ≤ maxLen := by unfold maxLen; (try simp only [List.length_append, List.length_cons, List.length_nil]); omega
        refine awp_region rfl ?_
        simp only [f5, z1, t1, z2, hd, hcat5, hcat6, hcat9, RR, seval]
        refine awp_region rfl ?_
        simp only [f7, z1, t1, z2, hd, hcat5, hcat6, hcat9, RR, seval]
        try rw [IntWalk.i64_in _ (by omega)]
        refine hK2 _ _ hlt2 ⟨by first | rfl | (simp only [upd_app, seval]; rfl), (by rw [endS, hE0]; rfl)⟩ (by repeat (first | exact ag2 | refine agree.upd rfl ?_))
      · have hkn2 : i = k := by have := of_decide_eq_false hc; omega
        clear hc
        rw [hkn2] at f5
        have q3 := hl3 ([102, 117, 110, 99, 32, 109, 97, 105, 110, 40, 41, 32, 123, 32] ++ ifS k ++ [112, 117, 116, 40, 49, 41, 59]) k
        simp only [List.length_append, List.length_cons, List.length_nil] at q3
        generalize hE0 : endS ([102, 117, 110, 99, 32, 109, 97, 105, 110, 40, 41, 32, 123, 32] ++ ifS k ++ [112, 117, 116, 40, 49, 41, 59]) k = E0 at *
        refine awp_exit ?_; simp only [RR, seval]
        refine awp_seq_k fun K hK => ?_
        refine awp_region rfl ?_
        simp only [f4, z1, t1, z2, hd, hcat5, hcat6, RR, seval]
        refine awpC_pure' (c1) ?_
        simp only [f4, z1, t1, z2, hd, hcat5, hcat6, RR, seval]
        refine awpN_intro fun b8 hn8 => ?_
        simp only [f4, z1, t1, z2, hd, hcat5, hcat6, RR, seval]
        refine hK _ _ ?_; clear hK K
        have hcat10 : (E0).length + 2 ≤ maxLen := by unfold maxLen; (try simp only [List.length_append, List.length_cons, List.length_nil]); omega
        refine awp_seq_k fun K hK => ?_
        refine awp_region rfl ?_
        simp only [f5, z1, t1, z2, hd, hcat5, hcat6, hcat10, RR, seval]
        refine awpC_pure' (c2) ?_
        simp only [f5, z1, t1, z2, hd, hcat5, hcat6, hcat10, RR, seval]
        refine awpN_intro fun b11 hn11 => ?_
        have nb11_b8 : b11 ≠ b8 := fun e => by rw [e] at hn11; simp only [RR, seval, reduceCtorEq] at hn11
        have nb8_b11 : b8 ≠ b11 := fun e => nb11_b8 e.symm
        simp only [f5, nb11_b8, nb8_b11, z1, t1, z2, hd, hcat5, hcat6, hcat10, RR, seval]
        refine hK _ _ ?_; clear hK K
        refine awp_seq_k fun K hK => ?_
        refine awp_region rfl ?_
        simp only [f3, nb11_b8, nb8_b11, z1, t1, z2, hd, hcat5, hcat6, hcat10, RR, seval]
        refine awpC_pure' (awake_con) ?_
        simp only [f3, nb11_b8, nb8_b11, z1, t1, z2, hd, hcat5, hcat6, hcat10, RR, seval]
        refine hK _ _ ?_; clear hK K
        refine awp_ret ?_; simp only [bodyQ, aresult, ares, f2, z1, t1, z2, hd, hcat5, hcat6, hcat10, RR, seval]
        refine Gives.pure ?_
        first | rfl | simp
  · have hd : decide (((k + 2 : Nat) : Int) ≤ 24) = false := decide_eq_false (by omega)
    rw [if_neg hk2] at c1 c2
    simp only [resE, resP, Ex.row_eq, Pg.av, Pg.row, deepT] at c1 c2
    refine con_of 82 [.tmp 2] Tryd.func9 rfl rfl rfl rfl ?_
    refine awp_seq_k fun K hK => ?_
    refine awp_region rfl ?_
    simp only [z1, t1, z2, hd, RR, seval]
    refine hK _ _ ?_; clear hK K
    refine awp_seq_k fun K hK => ?_
    refine awp_region rfl ?_
    simp only [z1, t1, z2, hd, RR, seval]
    refine hK _ _ ?_; clear hK K
    refine awp_seq_k fun K hK => ?_
    refine awp_region rfl ?_
    simp only [z1, t1, z2, hd, RR, seval]
    refine hK _ _ ?_; clear hK K
    refine awp_seq ?_
    refine awp_seq_k fun K hK => ?_
    refine awp_region rfl ?_
    simp only [z1, t1, z2, hd, RR, seval]
    refine hK _ _ ?_; clear hK K
    refine awp_name fun F1 M1 hfr hH => ?_
    have g2 := hfr 2
    have g3 := hfr 3
    have g4 := hfr 4
    have g5 := hfr 5
    have g6 := hfr 6
    try simp only [z1, t1, z2, hd, RR, seval] at g2 g3 g4 g5 g6
    have f2 := g2; clear g2
    have f3 := g3; clear g3
    have f4 := g4; clear g4
    have f5 := g5; clear g5
    have f6 := g6; clear g6
    clear hfr hH
    refine awp_block ?_
    refine awp_each [2, 3] (k) (fun j fr M => fr 6 = .int .i64 (j : Nat) ∧ fr 4 = .str (bangS j) ∧ fr 5 = .str (ifS j)) ⟨f6, f4, f5⟩ ?_
    rintro j F2 M2 hk0 ⟨fx, f4, f5⟩ agx K0 hK0
    have f2 := (agx 2 rfl).trans f2
    have f3 := (agx 3 rfl).trans f3
    have f6 := fx; clear fx
    have ag0 := agree.refl [2, 3] F2
    clear agx
    refine awp_seq ?_
    refine awp_seq_k fun K hK => ?_
    refine awp_region rfl ?_
    simp only [f3, f6, z1, t1, z2, hd, RR, seval]
    refine hK _ _ ?_; clear hK K
    refine awp_if _ rfl (fun hc => ?_) (fun hc => ?_)
    · have hlt0 : j < k := by have := of_decide_eq_true hc; omega
      clear hc
      have q1 := hl1 j
      have q2 := hl2 j
      refine awp_skip ?_; try simp only [RR]
      refine awp_seq ?_
      refine awp_block ?_
      have hcat3 : 1 + (bangS j).length ≤ maxLen := by unfold maxLen; (try simp only [List.length_append, List.length_cons, List.length_nil]); omega
      refine awp_seq_k fun K hK => ?_
      refine awp_region rfl ?_
      simp only [f4, z1, t1, z2, hd, hcat3, RR, seval]
      refine hK _ _ ?_; clear hK K
      have hcat4 : (ifS j).length + 13 ≤ maxLen := by unfold maxLen; (try simp only [List.length_append, List.length_cons, List.length_nil]); omega
      refine awp_region rfl ?_
      simp only [f5, z1, t1, z2, hd, hcat3, hcat4, RR, seval]
      refine awp_region rfl ?_
      simp only [f6, z1, t1, z2, hd, hcat3, hcat4, RR, seval]
      try rw [IntWalk.i64_in _ (by omega)]
      refine hK0 _ _ hlt0 ⟨by first | rfl | (simp only [upd_app, seval]; rfl), rfl, rfl⟩ (by repeat (first | exact ag0 | refine agree.upd rfl ?_))
    · have hkn0 : j = k := by have := of_decide_eq_false hc; omega
      clear hc
      rw [hkn0] at f4 f5
      have q2 := hl2 k
      refine awp_exit ?_; simp only [RR, seval]
      have hcat5 : 14 + (ifS k).length ≤ maxLen := by unfold maxLen; (try simp only [List.length_append, List.length_cons, List.length_nil]); omega
      have hcat6 : (ifS k).length + 1 + 1 + 1 + 1 + 1 + 1 + 1 + 1 + 1 + 1 + 1 + 1 + 1 + 1 + 7 ≤ maxLen := by unfold maxLen; (try simp only [List.length_append, List.length_cons, List.length_nil]); omega
      refine awp_seq_k fun K hK => ?_
      refine awp_region rfl ?_
      simp only [f5, z1, t1, z2, hd, hcat5, hcat6, RR, seval]
      refine hK _ _ ?_; clear hK K
      refine awp_seq ?_
      refine awp_seq_k fun K hK => ?_
      refine awp_region rfl ?_
      simp only [z1, t1, z2, hd, hcat5, hcat6, RR, seval]
      refine hK _ _ ?_; clear hK K
      refine awp_name fun F7 M7 hfr hH => ?_
      have g2 := hfr 2
      have g3 := hfr 3
      have g4 := hfr 4
      have g5 := hfr 5
      have g7 := hfr 7
      try simp only [f2, f3, f6, f4, f5, z1, t1, z2, hd, hcat5, hcat6, RR, seval] at g2 g3 g4 g5 g7
      have f2 := g2; clear g2
      have f3 := g3; clear g3
      have f4 := g4; clear g4
      have f5 := g5; clear g5
      have f7 := g7; clear g7
      clear hfr hH
      refine awp_block ?_
      refine awp_each [2, 3, 4] (k) (fun i fr M => fr 7 = .int .i64 (i : Nat) ∧ fr 5 = .str (endS ([102, 117, 110, 99, 32, 109, 97, 105, 110, 40, 41, 32, 123, 32] ++ ifS k ++ [112, 117, 116, 40, 49, 41, 59]) i)) ⟨f7, (by rw [f5]; rfl)⟩ ?_
      rintro i F8 M8 hk2 ⟨fx, f5⟩ agx K2 hK2
      have f2 := (agx 2 rfl).trans f2
      have f3 := (agx 3 rfl).trans f3
      have f4 := (agx 4 rfl).trans f4
      have f7 := fx; clear fx
      have ag2 := agree.refl [2, 3, 4] F8
      clear agx
      refine awp_seq ?_
      refine awp_seq_k fun K hK => ?_
      refine awp_region rfl ?_
      simp only [f3, f7, z1, t1, z2, hd, hcat5, hcat6, RR, seval]
      refine hK _ _ ?_; clear hK K
      refine awp_if _ rfl (fun hc => ?_) (fun hc => ?_)
      · have hlt2 : i < k := by have := of_decide_eq_true hc; omega
        clear hc
        have q3 := hl3 ([102, 117, 110, 99, 32, 109, 97, 105, 110, 40, 41, 32, 123, 32] ++ ifS k ++ [112, 117, 116, 40, 49, 41, 59]) i
        simp only [List.length_append, List.length_cons, List.length_nil] at q3
        generalize hE0 : endS ([102, 117, 110, 99, 32, 109, 97, 105, 110, 40, 41, 32, 123, 32] ++ ifS k ++ [112, 117, 116, 40, 49, 41, 59]) i = E0 at *
        refine awp_skip ?_; try simp only [RR]
        refine awp_seq ?_
        refine awp_block ?_
        have hcat9 : (E0).length + 2 ≤ maxLen := by unfold maxLen; (try simp only [List.length_append, List.length_cons, List.length_nil]); omega
        refine awp_region rfl ?_
        simp only [f5, z1, t1, z2, hd, hcat5, hcat6, hcat9, RR, seval]
        refine awp_region rfl ?_
        simp only [f7, z1, t1, z2, hd, hcat5, hcat6, hcat9, RR, seval]
        try rw [IntWalk.i64_in _ (by omega)]
        refine hK2 _ _ hlt2 ⟨by first | rfl | (simp only [upd_app, seval]; rfl), (by rw [endS, hE0]; rfl)⟩ (by repeat (first | exact ag2 | refine agree.upd rfl ?_))
      · have hkn2 : i = k := by have := of_decide_eq_false hc; omega
        clear hc
        rw [hkn2] at f5
        have q3 := hl3 ([102, 117, 110, 99, 32, 109, 97, 105, 110, 40, 41, 32, 123, 32] ++ ifS k ++ [112, 117, 116, 40, 49, 41, 59]) k
        simp only [List.length_append, List.length_cons, List.length_nil] at q3
        generalize hE0 : endS ([102, 117, 110, 99, 32, 109, 97, 105, 110, 40, 41, 32, 123, 32] ++ ifS k ++ [112, 117, 116, 40, 49, 41, 59]) k = E0 at *
        refine awp_exit ?_; simp only [RR, seval]
        refine awp_seq_k fun K hK => ?_
        refine awp_region rfl ?_
        simp only [f4, z1, t1, z2, hd, hcat5, hcat6, RR, seval]
        refine awpC_pure' (c1) ?_
        simp only [f4, z1, t1, z2, hd, hcat5, hcat6, RR, seval]
        refine awpN_intro fun b8 hn8 => ?_
        simp only [f4, z1, t1, z2, hd, hcat5, hcat6, RR, seval]
        refine hK _ _ ?_; clear hK K
        have hcat10 : (E0).length + 2 ≤ maxLen := by unfold maxLen; (try simp only [List.length_append, List.length_cons, List.length_nil]); omega
        refine awp_seq_k fun K hK => ?_
        refine awp_region rfl ?_
        simp only [f5, z1, t1, z2, hd, hcat5, hcat6, hcat10, RR, seval]
        refine awpC_pure' (c2) ?_
        simp only [f5, z1, t1, z2, hd, hcat5, hcat6, hcat10, RR, seval]
        refine awpN_intro fun b11 hn11 => ?_
        have nb11_b8 : b11 ≠ b8 := fun e => by rw [e] at hn11; simp only [RR, seval, reduceCtorEq] at hn11
        have nb8_b11 : b8 ≠ b11 := fun e => nb11_b8 e.symm
        simp only [f5, nb11_b8, nb8_b11, z1, t1, z2, hd, hcat5, hcat6, hcat10, RR, seval]
        refine hK _ _ ?_; clear hK K
        refine awp_seq_k fun K hK => ?_
        refine awp_region rfl ?_
        simp only [f3, nb11_b8, nb8_b11, z1, t1, z2, hd, hcat5, hcat6, hcat10, RR, seval]
        refine awpC_pure' (awake_con) ?_
        simp only [f3, nb11_b8, nb8_b11, z1, t1, z2, hd, hcat5, hcat6, hcat10, RR, seval]
        refine hK _ _ ?_; clear hK K
        refine awp_ret ?_; simp only [bodyQ, aresult, ares, f2, z1, t1, z2, hd, hcat5, hcat6, hcat10, RR, seval]
        refine Gives.pure ?_
        first | rfl | simp
end Go.Proofs.YtlpeikljipknoaaDoor
