/- Chapter 15: ParseParens: the law's contract. -/
import Derived.Test.YtlpeikljipknoaaDoorGBp
set_option linter.unusedSimpArgs false
set_option linter.unusedVariables false
set_option maxRecDepth 10000
namespace Go.Proofs.YtlpeikljipknoaaDoor
open Go.Al
set_option maxHeartbeats 4000000 in
theorem ParseParens_con (s : Str) (n : Int) (hn : 0 ≤ n ∧ n ≤ 255) : PCon env 7 [.str s, .int .u8 n] (.bool true) := by
  obtain ⟨n, rfl⟩ : ∃ a : Nat, n = a := ⟨n.toNat, by omega⟩
  by_cases hs : 300 < s.length
  · have hd : decide ((300 : Int) < (s.length : Int)) = true := decide_eq_true (by omega)
    refine con_of 53 [.tmp 4] Tryd.func7 rfl rfl rfl rfl ?_
    refine awp_seq_k fun K hK => ?_
    refine awp_region rfl ?_
    simp only [hd, RR, seval]
    refine hK _ _ ?_; clear hK K
    refine awp_seq ?_
    refine awp_seq_k fun K hK => ?_
    refine awp_region rfl ?_
    simp only [hd, RR, seval]
    refine hK _ _ ?_; clear hK K
    refine awp_if true rfl (fun _ => ?_) (fun hc => by cases hc)
    refine awp_seq_k fun K hK => ?_
    refine awp_region rfl ?_
    simp only [hd, RR, seval]
    refine awpC_pure' (awake_con) ?_
    simp only [hd, RR, seval]
    refine hK _ _ ?_; clear hK K
    refine awp_ret ?_; simp only [bodyQ, aresult, ares, hd, RR, seval]
    refine Gives.pure ?_
    rfl
  · have hd : decide ((300 : Int) < (s.length : Int)) = false := decide_eq_false (by omega)
    have c1 := pExpr_con s (by omega)
    have o1 := srcE_ok s
    have hpar : ∀ e, srcE s = (e, 0, 0) → srcE (parS n (s ++ [10])) = (e, 0, 0) := fun e => src_par (by omega) n (by omega)
    have hplen := fun k => parS_len (s ++ [10]) k
    rw [List.length_append, List.length_singleton] at hplen
    have c2 := pExpr_con (parS n (s ++ [10])) (by rw [hplen]; omega)
    have hinv : ∀ e i, srcE s = (e, i, 0) → i = 0 := fun e i h => (srcE_inv h).1
    generalize srcE s = r at *
    obtain ⟨x, i, e⟩ := r
    simp only at o1
    by_cases he : e = 0
    · subst he
      obtain rfl := hinv _ _ rfl
      rw [hpar _ rfl] at c2
      have e3 := rSameExpr_con x x o1 o1
      rw [eqB_self] at e3
      have z1 : IntKind.wrap .i64 (n : Int) = (n : Int) := by rw [IntWalk.i64_in _ (by omega)]
      simp only [resE, Ex.row_eq] at c1 c2 e3
      refine con_of 53 [.tmp 4] Tryd.func7 rfl rfl rfl rfl ?_
      refine awp_seq_k fun K hK => ?_
      refine awp_region rfl ?_
      simp only [hd, z1, RR, seval]
      refine hK _ _ ?_; clear hK K
      refine awp_seq ?_
      refine awp_seq_k fun K hK => ?_
      refine awp_region rfl ?_
      simp only [hd, z1, RR, seval]
      refine hK _ _ ?_; clear hK K
      refine awp_if false rfl (fun hc => by cases hc) (fun _ => ?_)
      refine awp_skip ?_; try simp only [RR]
      refine awp_seq_k fun K hK => ?_
      refine awp_region rfl ?_
      simp only [hd, z1, RR, seval]
      refine awpC_pure' (c1) ?_
      simp only [hd, z1, RR, seval]
      refine awpN_intro fun b5 hn5 => ?_
      simp only [hd, z1, RR, seval]
      refine hK _ _ ?_; clear hK K
      refine awp_seq ?_
      refine awp_seq_k fun K hK => ?_
      refine awp_region rfl ?_
      simp only [hd, z1, RR, seval]
      refine hK _ _ ?_; clear hK K
      refine awp_if false rfl (fun hc => by cases hc) (fun _ => ?_)
      refine awp_skip ?_; try simp only [RR]
      have hcat1 : (s).length + 1 ≤ maxLen := by unfold maxLen; (try simp only [List.length_append, List.length_cons, List.length_nil]); omega
      refine awp_seq_k fun K hK => ?_
      refine awp_region rfl ?_
      simp only [hd, z1, hcat1, RR, seval]
      refine hK _ _ ?_; clear hK K
      refine awp_seq ?_
      refine awp_seq_k fun K hK => ?_
      refine awp_region rfl ?_
      simp only [hd, z1, hcat1, RR, seval]
      refine hK _ _ ?_; clear hK K
      refine awp_name fun F2 M2 hfr hH => ?_
      have g1 := hfr 1
      have g4 := hfr 4
      have g5 := hfr 5
      have g8 := hfr 8
      have g9 := hfr 9
      have gb5 := hH b5
      try simp only [hd, z1, hcat1, RR, seval] at g1 g4 g5 g8 g9 gb5
      have f1 := g1; clear g1
      have f4 := g4; clear g4
      have f5 := g5; clear g5
      have f8 := g8; clear g8
      have f9 := g9; clear g9
      have hb5 := gb5; clear gb5
      clear hfr hH
      refine awp_block ?_
      refine awp_each [1, 4, 5] (n) (fun k fr M => fr 9 = .int .i64 (k : Nat) ∧ M b5 = M2 b5 ∧ fr 8 = .str (parS k (s ++ [10]))) ⟨f9, rfl, f8⟩ ?_
      rintro k F3 M3 hk0 ⟨fx, gb5, f8⟩ agx K0 hK0
      have f1 := (agx 1 rfl).trans f1
      have f4 := (agx 4 rfl).trans f4
      have f5 := (agx 5 rfl).trans f5
      have f9 := fx; clear fx
      have hb5 := gb5.trans hb5
      have ag0 := agree.refl [1, 4, 5] F3
      have e0_b5 := gb5; clear gb5
      clear agx
      refine awp_seq ?_
      refine awp_seq_k fun K hK => ?_
      refine awp_region rfl ?_
      simp only [f1, f9, hd, z1, hcat1, RR, seval]
      refine hK _ _ ?_; clear hK K
      refine awp_if _ rfl (fun hc => ?_) (fun hc => ?_)
      · have hlt0 : k < n := by have := of_decide_eq_true hc; omega
        clear hc
        have hk := hplen k
        refine awp_skip ?_; try simp only [RR]
        refine awp_seq ?_
        refine awp_block ?_
        have hcat4 : 1 + (parS k (s ++ [10])).length ≤ maxLen := by unfold maxLen; (try simp only [List.length_append, List.length_cons, List.length_nil]); omega
        have hcat5 : (parS k (s ++ [10])).length + 1 + 1 ≤ maxLen := by unfold maxLen; (try simp only [List.length_append, List.length_cons, List.length_nil]); omega
        refine awp_region rfl ?_
        simp only [f8, hd, z1, hcat1, hcat4, hcat5, RR, seval]
        refine awp_region rfl ?_
        simp only [f9, hd, z1, hcat1, hcat4, hcat5, RR, seval]
        try rw [IntWalk.i64_in _ (by omega)]
        refine hK0 _ _ hlt0 ⟨by first | rfl | (simp only [upd_app, seval]; rfl), (by first | exact e0_b5 | (simp only [upd_app, seval]; first | done | exact e0_b5)), (by rw [parS, ← List.append_assoc]; rfl)⟩ (by repeat (first | exact ag0 | refine agree.upd rfl ?_))
      · have hkn0 : k = n := by have := of_decide_eq_false hc; omega
        clear hc
        rw [hkn0] at f8
        refine awp_exit ?_; simp only [RR, seval]
        refine awp_seq_k fun K hK => ?_
        refine awp_region rfl ?_
        simp only [f8, hb5, hd, z1, hcat1, RR, seval]
        refine awpC_pure' (c2) ?_
        simp only [f8, hb5, hd, z1, hcat1, RR, seval]
        refine awpN_intro fun b10 hn10 => ?_
        have nb10_b5 : b10 ≠ b5 := fun e => by rw [e] at hn10; simp only [hb5, RR, seval, reduceCtorEq] at hn10
        have nb5_b10 : b5 ≠ b10 := fun e => nb10_b5 e.symm
        simp only [f8, hb5, nb10_b5, nb5_b10, hd, z1, hcat1, RR, seval]
        refine hK _ _ ?_; clear hK K
        refine awp_seq_k fun K hK => ?_
        refine awp_region rfl ?_
        simp only [f5, hb5, nb10_b5, nb5_b10, hd, z1, hcat1, RR, seval]
        refine awpC_pure' (awake_con) ?_
        simp only [f5, hb5, nb10_b5, nb5_b10, hd, z1, hcat1, RR, seval]
        refine awpC_pure' (e3) ?_
        simp only [f5, hb5, nb10_b5, nb5_b10, hd, z1, hcat1, RR, seval]
        refine hK _ _ ?_; clear hK K
        refine awp_ret ?_; simp only [bodyQ, aresult, ares, f4, hd, z1, hcat1, RR, seval]
        refine Gives.pure ?_
        first | rfl | simp
    · have hd2 : decide (e = 0) = false := decide_eq_false he
      simp only [resE, Ex.row_eq] at c1
      refine con_of 53 [.tmp 4] Tryd.func7 rfl rfl rfl rfl ?_
      refine awp_seq_k fun K hK => ?_
      refine awp_region rfl ?_
      simp only [hd, hd2, RR, seval]
      refine hK _ _ ?_; clear hK K
      refine awp_seq ?_
      refine awp_seq_k fun K hK => ?_
      refine awp_region rfl ?_
      simp only [hd, hd2, RR, seval]
      refine hK _ _ ?_; clear hK K
      refine awp_if false rfl (fun hc => by cases hc) (fun _ => ?_)
      refine awp_skip ?_; try simp only [RR]
      refine awp_seq_k fun K hK => ?_
      refine awp_region rfl ?_
      simp only [hd, hd2, RR, seval]
      refine awpC_pure' (c1) ?_
      simp only [hd, hd2, RR, seval]
      refine awpN_intro fun b5 hn5 => ?_
      simp only [hd, hd2, RR, seval]
      refine hK _ _ ?_; clear hK K
      refine awp_seq ?_
      refine awp_seq_k fun K hK => ?_
      refine awp_region rfl ?_
      simp only [hd, hd2, RR, seval]
      refine hK _ _ ?_; clear hK K
      refine awp_if true rfl (fun _ => ?_) (fun hc => by cases hc)
      refine awp_seq_k fun K hK => ?_
      refine awp_region rfl ?_
      simp only [hd, hd2, RR, seval]
      refine awpC_pure' (awake_con) ?_
      simp only [hd, hd2, RR, seval]
      refine hK _ _ ?_; clear hK K
      refine awp_ret ?_; simp only [bodyQ, aresult, ares, hd, hd2, RR, seval]
      refine Gives.pure ?_
      rfl
end Go.Proofs.YtlpeikljipknoaaDoor
