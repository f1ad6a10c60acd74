/- Chapter 15: ParseBlanks: the law's contract. -/
import Derived.Test.YtlpeikljipknoaaDoorGBp
set_option linter.unusedSimpArgs false
set_option linter.unusedVariables false
set_option maxRecDepth 10000
namespace Go.Proofs.YtlpeikljipknoaaDoor
open Go.Al
set_option maxHeartbeats 4000000 in
theorem ParseBlanks_con (s : Str) : PCon env 6 [.str s] (.bool true) := by
  by_cases hs : 500 < s.length
  · have hd : decide ((500 : Int) < (s.length : Int)) = true := decide_eq_true (by omega)
    refine con_of 64 [.tmp 2] Tryd.func6 rfl rfl rfl rfl ?_
    refine awp_seq_k fun K hK => ?_
    refine awp_region rfl ?_
    simp only [hd, RR, seval]
    refine hK _ _ ?_; clear hK K
    refine awp_seq ?_
    refine awp_seq_k fun K hK => ?_
    refine awp_region rfl ?_
    simp only [hd, RR, seval]
    refine hK _ _ ?_; clear hK K
    refine awp_if true rfl (fun _ => ?_) (fun hc => by cases hc)
    refine awp_seq_k fun K hK => ?_
    refine awp_region rfl ?_
    simp only [hd, RR, seval]
    refine awpC_pure' (awake_con) ?_
    simp only [hd, RR, seval]
    refine hK _ _ ?_; clear hK K
    refine awp_ret ?_; simp only [bodyQ, aresult, ares, hd, RR, seval]
    refine Gives.pure ?_
    rfl
  · have hd : decide ((500 : Int) < (s.length : Int)) = false := decide_eq_false (by omega)
    cases hl : lexS s with
    | error x =>
      obtain ⟨i, e⟩ := x
      have hL := rLex_err (s := s) (by omega) hl
      have he := lexS_err hl
      have hd2 : decide (e = 0) = false := decide_eq_false he
      refine con_of 64 [.tmp 2] Tryd.func6 rfl rfl rfl rfl ?_
      refine awp_seq_k fun K hK => ?_
      refine awp_region rfl ?_
      simp only [hd, hd2, RR, seval]
      refine hK _ _ ?_; clear hK K
      refine awp_seq ?_
      refine awp_seq_k fun K hK => ?_
      refine awp_region rfl ?_
      simp only [hd, hd2, RR, seval]
      refine hK _ _ ?_; clear hK K
      refine awp_if false rfl (fun hc => by cases hc) (fun _ => ?_)
      refine awp_skip ?_; try simp only [RR]
      refine awp_seq_k fun K hK => ?_
      refine awp_region rfl ?_
      simp only [hd, hd2, RR, seval]
      refine awpC_pure' (hL) ?_
      simp only [hd, hd2, RR, seval]
      refine hK _ _ ?_; clear hK K
      refine awp_seq ?_
      refine awp_seq_k fun K hK => ?_
      refine awp_region rfl ?_
      simp only [hd, hd2, RR, seval]
      refine hK _ _ ?_; clear hK K
      refine awp_if true rfl (fun _ => ?_) (fun hc => by cases hc)
      refine awp_seq_k fun K hK => ?_
      refine awp_region rfl ?_
      simp only [hd, hd2, RR, seval]
      refine awpC_pure' (awake_con) ?_
      simp only [hd, hd2, RR, seval]
      refine hK _ _ ?_; clear hK K
      refine awp_ret ?_; simp only [bodyQ, aresult, ares, hd, hd2, RR, seval]
      refine Gives.pure ?_
      rfl
    | ok T =>
      have hL := rLex_ok (s := s) (by omega) hl
      obtain ⟨hlen, U, hU, hz⟩ := note_lex (by omega) hl
      obtain ⟨q1, q2⟩ := src_z hl hU hz
      have hTl : T.length ≤ 500 := by
        have hl2 := hl
        unfold lexS at hl2
        rw [if_neg (by omega)] at hl2
        have := (lexH_sz s.length s 0 0 T (Nat.le_refl _) hl2).1
        omega
      have c1 := pProg_con s (by omega)
      have c2 := pProg_con (flat noteS T) (by omega)
      have o1 := srcP_ok s
      generalize srcP s = r1 at *
      generalize srcP (flat noteS T) = r2 at *
      obtain ⟨p, i1, j1⟩ := r1
      obtain ⟨p', i2, j2⟩ := r2
      simp only at q1 q2 o1
      subst q1 q2
      have e3 := Same_con p' p' o1 o1
      rw [eqB_self] at e3
      simp only [resP, Pg.av, Pg.row] at c1 c2 e3
      refine con_of 64 [.tmp 2] Tryd.func6 rfl rfl rfl rfl ?_
      refine awp_seq_k fun K hK => ?_
      refine awp_region rfl ?_
      simp only [hd, List.length_map, RR, seval]
      refine hK _ _ ?_; clear hK K
      refine awp_seq ?_
      refine awp_seq_k fun K hK => ?_
      refine awp_region rfl ?_
      simp only [hd, List.length_map, RR, seval]
      refine hK _ _ ?_; clear hK K
      refine awp_if false rfl (fun hc => by cases hc) (fun _ => ?_)
      refine awp_skip ?_; try simp only [RR]
      refine awp_seq_k fun K hK => ?_
      refine awp_region rfl ?_
      simp only [hd, List.length_map, RR, seval]
      refine awpC_pure' (hL) ?_
      simp only [hd, List.length_map, RR, seval]
      refine hK _ _ ?_; clear hK K
      refine awp_seq ?_
      refine awp_seq_k fun K hK => ?_
      refine awp_region rfl ?_
      simp only [hd, List.length_map, RR, seval]
      refine hK _ _ ?_; clear hK K
      refine awp_if false rfl (fun hc => by cases hc) (fun _ => ?_)
      refine awp_skip ?_; try simp only [RR]
      refine awp_seq_k fun K hK => ?_
      refine awp_region rfl ?_
      simp only [hd, List.length_map, RR, seval]
      refine hK _ _ ?_; clear hK K
      refine awp_seq ?_
      refine awp_seq_k fun K hK => ?_
      refine awp_region rfl ?_
      simp only [hd, List.length_map, RR, seval]
      refine hK _ _ ?_; clear hK K
      refine awp_name fun F1 M1 hfr hH => ?_
      have g0 := hfr 0
      have g2 := hfr 2
      have g3 := hfr 3
      have g6 := hfr 6
      have g7 := hfr 7
      try simp only [hd, List.length_map, RR, seval] at g0 g2 g3 g6 g7
      have f0 := g0; clear g0
      have f2 := g2; clear g2
      have f3 := g3; clear g3
      have f6 := g6; clear g6
      have f7 := g7; clear g7
      clear hfr hH
      refine awp_block ?_
      refine awp_each [0, 2, 3] (T.length) (fun k fr M => fr 7 = .int .i64 (k : Nat) ∧ fr 6 = .str (flat noteS (T.take k))) ⟨f7, by simp [flat, f6]⟩ ?_
      rintro k F2 M2 hk0 ⟨fx, f6⟩ agx K0 hK0
      have f0 := (agx 0 rfl).trans f0
      have f2 := (agx 2 rfl).trans f2
      have f3 := (agx 3 rfl).trans f3
      have f7 := fx; clear fx
      have ag0 := agree.refl [0, 2, 3] F2
      clear agx
      refine awp_seq ?_
      refine awp_seq_k fun K hK => ?_
      refine awp_region rfl ?_
      simp only [f3, f7, hd, List.length_map, RR, seval]
      refine hK _ _ ?_; clear hK K
      refine awp_if _ rfl (fun hc => ?_) (fun hc => ?_)
      · have hlt0 : k < T.length := by have := of_decide_eq_true hc; omega
        clear hc
        have hg := List.getElem?_eq_getElem hlt0
        have hfl : (flat noteS (T.take k)).length + (T[k].text.length + 15) ≤ 8000 := by
          have h1 : flat noteS T = flat noteS (T.take k) ++ (T[k].text ++ (noteS ++ flat noteS (T.drop (k + 1)))) := by
            conv => lhs; rw [← List.take_append_drop k T, flat_app, List.drop_eq_getElem_cons hlt0]
            rfl
          have h2 := congrArg List.length h1
          simp only [List.length_append, show noteS.length = 15 from rfl] at h2
          omega
        have htk : flat noteS (T.take (k + 1)) = flat noteS (T.take k) ++ T[k].text ++ [32, 47, 47, 32, 97, 32, 110, 111, 116, 101, 59, 32, 125, 10, 9] := by
          rw [List.take_succ_eq_append_getElem hlt0, flat_app]
          simp [flat, noteS]
        generalize T[k] = t at hg hfl htk
        have hgt := getT hg
        refine awp_skip ?_; try simp only [RR]
        refine awp_seq ?_
        refine awp_block ?_
        have hcat3 : (flat noteS (T.take k)).length + (t.text).length ≤ maxLen := by unfold maxLen; (try simp only [List.length_append, List.length_cons, List.length_nil]); omega
        have hcat4 : (flat noteS (T.take k) ++ t.text).length + 15 ≤ maxLen := by unfold maxLen; (try simp only [List.length_append, List.length_cons, List.length_nil]); omega
        refine awp_region rfl ?_
        simp only [f3, f7, f6, hd, List.length_map, hgt, hcat3, hcat4, RR, seval]
        refine awp_region rfl ?_
        simp only [f7, hd, List.length_map, hgt, hcat3, hcat4, RR, seval]
        try rw [IntWalk.i64_in _ (by omega)]
        refine hK0 _ _ hlt0 ⟨by first | rfl | (simp only [upd_app, seval]; rfl), (by rw [htk]; rfl)⟩ (by repeat (first | exact ag0 | refine agree.upd rfl ?_))
      · have hkn0 : k = T.length := by have := of_decide_eq_false hc; omega
        clear hc
        rw [hkn0, List.take_length] at f6
        refine awp_exit ?_; simp only [RR, seval]
        refine awp_seq_k fun K hK => ?_
        refine awp_region rfl ?_
        simp only [f0, hd, List.length_map, RR, seval]
        refine awpC_pure' (c1) ?_
        simp only [f0, hd, List.length_map, RR, seval]
        refine awpN_intro fun b8 hn8 => ?_
        simp only [f0, hd, List.length_map, RR, seval]
        refine hK _ _ ?_; clear hK K
        refine awp_seq_k fun K hK => ?_
        refine awp_region rfl ?_
        simp only [f6, hd, List.length_map, RR, seval]
        refine awpC_pure' (c2) ?_
        simp only [f6, hd, List.length_map, RR, seval]
        refine awpN_intro fun b11 hn11 => ?_
        have nb11_b8 : b11 ≠ b8 := fun e => by rw [e] at hn11; simp only [RR, seval, reduceCtorEq] at hn11
        have nb8_b11 : b8 ≠ b11 := fun e => nb11_b8 e.symm
        simp only [f6, nb11_b8, nb8_b11, hd, List.length_map, RR, seval]
        refine hK _ _ ?_; clear hK K
        refine awp_seq_k fun K hK => ?_
        refine awp_region rfl ?_
        simp only [nb11_b8, nb8_b11, hd, List.length_map, RR, seval]
        refine awpC_pure' (awake_con) ?_
        simp only [nb11_b8, nb8_b11, hd, List.length_map, RR, seval]
        refine awpC_pure' (e3) ?_
        simp only [nb11_b8, nb8_b11, hd, List.length_map, RR, seval]
        refine hK _ _ ?_; clear hK K
        refine awp_ret ?_; simp only [bodyQ, aresult, ares, f2, hd, List.length_map, RR, seval]
        refine Gives.pure ?_
        first | rfl | simp
end Go.Proofs.YtlpeikljipknoaaDoor
