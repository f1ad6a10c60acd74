/- Chapter 15, the judge's: a source's program, an expression's text. -/
import Derived.Test.YtlpeikljipknoaaDoorJf
import Derived.Test.YtlpeikljipknoaaDoorRd0
import Derived.Test.YtlpeikljipknoaaDoorLx
set_option linter.unusedSimpArgs false
set_option linter.unusedVariables false
set_option maxRecDepth 10000
namespace Go.Proofs.YtlpeikljipknoaaDoor
open Go.Al
theorem place_con (r0 : Nat) (T : List Tok) (n : Nat) (w : Bool) (hn : n ≤ T.length) (s : Str) : JOne 28 [.str s] r0 T n w (.int .i64 (atI T s.length n)) n w := by
  unfold JOne
  have hr0 := jdH_at r0 T n w
  by_cases hlt : n < T.length
  · have hg := List.getElem?_eq_getElem hlt
    generalize T[n] = t at hg
    have hgt := getT hg
    have hd : decide ((n : Int) < (T.length : Int)) = true := decide_eq_true (by omega)
    have e : atI T s.length n = (t.pos : Int) := by simp [atI, hg]
    rw [e]
    refine con_of 28 [.tmp 4] Tryd.func28 rfl rfl rfl rfl ?_
    refine awp_seq_k fun K hK => ?_
    refine awp_region rfl ?_
    simp only [List.length_map, hgt, hd, RR, seval]
    refine hK _ _ ?_; clear hK K
    refine awp_seq ?_
    refine awp_seq_k fun K hK => ?_
    refine awp_region_draw2 (fun x => x ≠ r0) [(0, 3), (1, 3), (2, 3), (3, 1), (4, 3), (5, 3), (6, 3), (7, 1), (8, 3), (9, 3)] [] draws (by kernel_rfl) rfl rfl ?_
    simp only [emitF, markOf, EM, hr0, List.length_map, hgt, hd, RR, seval]
    refine hK _ _ ?_; clear hK K
    refine awp_if _ rfl (fun hc1 => ?_) (fun hc1 => ?_)
    · refine awp_seq_k fun K hK => ?_
      refine awp_region_draw2 (fun x => x ≠ r0) [(0, 3), (1, 3), (2, 3), (3, 1), (4, 3), (5, 3), (6, 3), (7, 1), (8, 3), (9, 3), (10, 1), (11, 3)] [] draws (by kernel_rfl) rfl rfl ?_
      simp only [emitF, markOf, EM, hr0, List.length_map, hgt, hd, RR, seval]
      refine hK _ _ ?_; clear hK K
      refine awp_ret ?_; simp only [bodyQ, aresult, ares, List.length_map, hgt, hd, RR, seval]
      refine jogives (by first | exact hr0 | (simp only [hr0, List.length_map, hgt, hd, upd_app, RR, seval]; done)) ?_
      first | rfl | simp_all
    · refine awp_skip ?_; try simp only [RR]
      refine awp_seq_k fun K hK => ?_
      refine awp_region rfl ?_
      simp only [hr0, List.length_map, hgt, hd, RR, seval]
      refine hK _ _ ?_; clear hK K
      refine awp_ret ?_; simp only [bodyQ, aresult, ares, List.length_map, hgt, hd, RR, seval]
      refine jogives (by first | exact hr0 | (simp only [hr0, List.length_map, hgt, hd, upd_app, RR, seval]; done)) ?_
      first | rfl | simp_all
  · have hd : decide ((n : Int) < (T.length : Int)) = false := decide_eq_false (by omega)
    have e : atI T s.length n = (s.length : Int) := by simp [atI, List.getElem?_eq_none (Nat.le_of_not_lt hlt)]
    rw [e]
    refine con_of 28 [.tmp 4] Tryd.func28 rfl rfl rfl rfl ?_
    refine awp_seq_k fun K hK => ?_
    refine awp_region rfl ?_
    simp only [List.length_map, hd, RR, seval]
    refine hK _ _ ?_; clear hK K
    refine awp_seq ?_
    refine awp_seq_k fun K hK => ?_
    refine awp_region_draw2 (fun x => x ≠ r0) [(0, 3), (1, 3), (2, 3), (3, 1), (4, 3), (5, 3), (6, 3), (7, 1), (8, 3), (9, 3)] [] draws (by kernel_rfl) rfl rfl ?_
    simp only [emitF, markOf, EM, hr0, List.length_map, hd, RR, seval]
    refine hK _ _ ?_; clear hK K
    refine awp_if false rfl (fun hc => by cases hc) (fun _ => ?_)
    refine awp_skip ?_; try simp only [RR]
    refine awp_seq_k fun K hK => ?_
    refine awp_region rfl ?_
    simp only [hr0, List.length_map, hd, RR, seval]
    refine hK _ _ ?_; clear hK K
    refine awp_ret ?_; simp only [bodyQ, aresult, ares, List.length_map, hd, RR, seval]
    refine jogives (by first | exact hr0 | (simp only [hr0, List.length_map, hd, upd_app, RR, seval]; done)) ?_
    first | rfl | simp_all
set_option maxHeartbeats 4000000 in
theorem rProg_con (s : Str) (hs : s.length ≤ 1000000) : PCon env 13 [.str s] (resP (srcP s)) := by
  generalize hres : srcP s = res
  unfold srcP at hres
  have hz : Al.Sub (.agg [.nsl, .nsl, .nsl]) pgZ.av := Sub.agg pg_sub0
  cases hl : lexS s with
  | error x =>
    obtain ⟨i, e⟩ := x
    rw [hl] at hres
    simp only at hres
    subst hres
    have hL := rLex_err hs hl
    have he := lexS_err hl
    have hd : decide (e = 0) = false := decide_eq_false he
    refine con_of 48 [.cell 2 27, .tmp 3, .tmp 4] Tryd.func13 rfl rfl rfl rfl ?_
    refine awp_seq_k fun K hK => ?_
    refine awp_region rfl ?_
    simp only [hd, RR, seval]
    refine awpN_intro fun b2 hn2 => ?_
    simp only [hd, RR, seval]
    refine hK _ _ ?_; clear hK K
    refine awp_seq_k fun K hK => ?_
    refine awp_region rfl ?_
    simp only [hd, RR, seval]
    refine awpC_pure' (hL) ?_
    simp only [hd, RR, seval]
    refine hK _ _ ?_; clear hK K
    refine awp_seq ?_
    refine awp_seq_k fun K hK => ?_
    refine awp_region rfl ?_
    simp only [hd, RR, seval]
    refine hK _ _ ?_; clear hK K
    refine awp_if true rfl (fun _ => ?_) (fun hc => by cases hc)
    refine awp_seq_k fun K hK => ?_
    refine awp_region rfl ?_
    simp only [hd, RR, seval]
    refine hK _ _ ?_; clear hK K
    refine awp_ret ?_; simp only [bodyQ, aresult, ares, hd, RR, seval]
    refine ⟨resP _, emp, (Turn.sub ?_).trans (Turn.drop (hsub_emp _)), rfl, rfl⟩
    first | exact Sub.refl _ | exact Sub.tup (SubL.cons hz (SubL.refl _))
  | ok T =>
    rw [hl] at hres
    simp only at hres
    have hL := rLex_ok hs hl
    have hT := lexS_sz hl
    refine con_of 48 [.cell 2 27, .tmp 3, .tmp 4] Tryd.func13 rfl rfl rfl rfl ?_
    refine awp_seq_k fun K hK => ?_
    refine awp_region rfl ?_
    simp only [List.length_map, pgV, RR, seval]
    refine awpN_intro fun b2 hn2 => ?_
    simp only [List.length_map, pgV, RR, seval]
    refine hK _ _ ?_; clear hK K
    refine awp_seq_k fun K hK => ?_
    refine awp_region rfl ?_
    simp only [List.length_map, pgV, RR, seval]
    refine awpC_pure' (hL) ?_
    simp only [List.length_map, pgV, RR, seval]
    refine hK _ _ ?_; clear hK K
    refine awp_seq ?_
    refine awp_seq_k fun K hK => ?_
    refine awp_region rfl ?_
    simp only [List.length_map, pgV, RR, seval]
    refine hK _ _ ?_; clear hK K
    refine awp_if false rfl (fun hc => by cases hc) (fun _ => ?_)
    refine awp_skip ?_; try simp only [RR]
    refine awp_seq_k fun K hK => ?_
    refine awp_region rfl ?_
    simp only [List.length_map, pgV, RR, seval]
    refine awpN_intro fun b23 hn23 => ?_
    have nb23_b2 : b23 ≠ b2 := fun e => by rw [e] at hn23; simp only [RR, seval, reduceCtorEq] at hn23
    have nb2_b23 : b2 ≠ b23 := fun e => nb23_b2 e.symm
    simp only [nb23_b2, nb2_b23, List.length_map, pgV, RR, seval]
    refine hK _ _ ?_; clear hK K
    refine awp_seq_k fun K hK => ?_
    refine awp_region rfl ?_
    simp only [nb23_b2, nb2_b23, List.length_map, pgV, RR, seval]
    refine awpC_jd (jprog_con b23 hT 0 false (Nat.zero_le _)) (by first | exact hb23 | (simp only [nb23_b2, nb2_b23, List.length_map, pgV, upd_app, RR, seval]; done)) trivial fun a25 m25 w25 M1 hj25 hle25 hlt25 hn25x hk25x => ?_
    rw [stW_f] at hj25
    have gb2 := hk25x b2 _ (by first | exact nb2_b23 | exact blk_ne hb2 hb23 (by decide) | (intro e; subst e; simp_all)) (by first | exact upd_same _ _ _ | (simp only [nb23_b2, nb2_b23, List.length_map, pgV, upd_app, RR, seval]; rfl))
    have hb2 := gb2; clear gb2
    have hb23 := hn25x; clear hn25x hk25x
    simp only [hb2, hb23, nb23_b2, nb2_b23, List.length_map, pgV, RR, seval]
    refine awpN_intro fun b9 hn9 => ?_
    have nb9_b2 : b9 ≠ b2 := fun e => by rw [e] at hn9; simp only [hb2, nb23_b2, nb2_b23, RR, seval, reduceCtorEq] at hn9
    have nb2_b9 : b2 ≠ b9 := fun e => nb9_b2 e.symm
    have nb9_b23 : b9 ≠ b23 := fun e => by rw [e] at hn9; simp only [hb23, nb23_b2, nb2_b23, RR, seval, reduceCtorEq] at hn9
    have nb23_b9 : b23 ≠ b9 := fun e => nb9_b23 e.symm
    simp only [hb2, hb23, nb23_b2, nb2_b23, nb9_b2, nb2_b9, nb9_b23, nb23_b9, List.length_map, pgV, RR, seval]
    refine hK _ _ ?_; clear hK K
    refine awp_seq ?_
    refine awp_seq_k fun K hK => ?_
    refine awp_region rfl ?_
    simp only [hb2, hb23, nb23_b2, nb2_b23, nb9_b2, nb2_b9, nb9_b23, nb23_b9, List.length_map, pgV, RR, seval]
    repeat' ((first | refine awpG_splitN (fun h => ?_) (fun h => ?_) | refine awpG_split (fun h => ?_) (fun h => ?_)) <;> simp only [h, hb2, hb23, nb23_b2, nb2_b23, nb9_b2, nb2_b9, nb9_b23, nb23_b9, List.length_map, pgV, RR, seval])
    all_goals
      refine hK _ _ ?_; clear hK K
      refine awp_if _ rfl (fun hc6 => ?_) (fun hc6 => ?_)
      · try (cases hc6; done)
        all_goals
          have hr : res = (pgZ, atI T s.length m25, 3) := by
            cases hw : w25 with
            | true => rw [hw, stW_t] at hj25; rw [← hj25] at hres; exact hres.symm
            | false =>
              rw [hw, stW_f] at hj25; rw [← hj25] at hres
              have hlt : m25 < T.length := by
                first
                | (rw [hw] at h; cases h; done)
                | (have := of_decide_eq_true hc6; omega)
              simp only [if_pos hlt] at hres
              exact hres.symm
          subst hr
          refine awp_seq_k fun K hK => ?_
          refine awp_region rfl ?_
          simp only [hb2, hb23, nb23_b2, nb2_b23, nb9_b2, nb2_b9, nb9_b23, nb23_b9, List.length_map, pgV, RR, seval]
          refine awpC_jo (place_con b23 T m25 w25 hlt25 s) (by first | exact hb23 | (simp only [hb2, hb23, nb23_b2, nb2_b23, nb9_b2, nb2_b9, nb9_b23, nb23_b9, List.length_map, pgV, upd_app, RR, seval]; done)) trivial fun M2 hn42x hk42x => ?_
          have gb2 := hk42x b2 _ (by first | exact nb2_b23 | exact blk_ne hb2 hb23 (by decide) | (intro e; subst e; simp_all)) (by first | exact hb2 | exact upd_same _ _ _ | (simp only [hb2, hb23, nb23_b2, nb2_b23, nb9_b2, nb2_b9, nb9_b23, nb23_b9, List.length_map, pgV, upd_app, RR, seval]; rfl))
          have gb9 := hk42x b9 _ (by first | exact nb9_b23 | exact blk_ne hb9 hb23 (by decide) | (intro e; subst e; simp_all)) (by first | exact upd_same _ _ _ | (simp only [hb2, hb23, nb23_b2, nb2_b23, nb9_b2, nb2_b9, nb9_b23, nb23_b9, List.length_map, pgV, upd_app, RR, seval]; rfl))
          have hb2 := gb2; clear gb2
          have hb9 := gb9; clear gb9
          have hb23 := hn42x; clear hn42x hk42x
          simp only [hb2, hb23, hb9, nb23_b2, nb2_b23, nb9_b2, nb2_b9, nb9_b23, nb23_b9, List.length_map, pgV, RR, seval]
          refine hK _ _ ?_; clear hK K
          refine awp_ret ?_; simp only [bodyQ, aresult, ares, hb2, hb23, hb9, nb23_b2, nb2_b23, nb9_b2, nb2_b9, nb9_b23, nb23_b9, List.length_map, pgV, RR, seval]
          refine ⟨resP _, emp, (Turn.sub ?_).trans (Turn.drop (hsub_emp _)), rfl, rfl⟩
          first | exact Sub.refl _ | exact Sub.tup (SubL.cons hz (SubL.refl _))
      · try (cases hc6; done)
        all_goals
          have hw : w25 = false := by simpa using h
          have hlt : ¬ m25 < T.length := by have := of_decide_eq_false hc6; omega
          rw [hw, stW_f] at hj25
          rw [← hj25] at hres
          simp only [if_neg hlt] at hres
          have hok := progP_ok hT (Nat.zero_le _) hj25.symm
          have hR := Right_con a25 hok.1 fun f hf => by have := (hok.2 f hf).1; omega
          rw [Pg.av, Pg.row] at hR
          refine awp_skip ?_; try simp only [RR]
          refine awp_seq ?_
          refine awp_seq_k fun K hK => ?_
          refine awp_region rfl ?_
          simp only [hb2, hb23, nb23_b2, nb2_b23, nb9_b2, nb2_b9, nb9_b23, nb23_b9, List.length_map, pgV, RR, seval]
          refine awpC_pure' (hR) ?_
          simp only [hb2, hb23, nb23_b2, nb2_b23, nb9_b2, nb2_b9, nb9_b23, nb23_b9, List.length_map, pgV, RR, seval]
          refine hK _ _ ?_; clear hK K
          refine awp_if _ rfl (fun hc8 => ?_) (fun hc8 => ?_)
          · have hr : ¬ rightP a25 = true := by simpa using hc8
            rw [if_neg hr] at hres
            subst hres
            refine awp_seq_k fun K hK => ?_
            refine awp_region rfl ?_
            simp only [hb2, hb23, nb23_b2, nb2_b23, nb9_b2, nb2_b9, nb9_b23, nb23_b9, List.length_map, pgV, RR, seval]
            refine hK _ _ ?_; clear hK K
            refine awp_ret ?_; simp only [bodyQ, aresult, ares, hb2, hb23, nb23_b2, nb2_b23, nb9_b2, nb2_b9, nb9_b23, nb23_b9, List.length_map, pgV, RR, seval]
            refine ⟨resP _, emp, (Turn.sub ?_).trans (Turn.drop (hsub_emp _)), rfl, rfl⟩
            first | exact Sub.refl _ | exact Sub.tup (SubL.cons hz (SubL.refl _))
          · have hr : rightP a25 = true := by simpa using hc8
            rw [if_pos hr] at hres
            subst hres
            refine awp_skip ?_; try simp only [RR]
            refine awp_seq_k fun K hK => ?_
            refine awp_region rfl ?_
            simp only [hb2, hb23, nb23_b2, nb2_b23, nb9_b2, nb2_b9, nb9_b23, nb23_b9, List.length_map, pgV, RR, seval]
            refine hK _ _ ?_; clear hK K
            refine awp_ret ?_; simp only [bodyQ, aresult, ares, hb2, hb23, nb23_b2, nb2_b23, nb9_b2, nb2_b9, nb9_b23, nb23_b9, List.length_map, pgV, RR, seval]
            refine ⟨resP _, emp, (Turn.sub ?_).trans (Turn.drop (hsub_emp _)), rfl, rfl⟩
            first | exact Sub.refl _ | exact Sub.tup (SubL.cons hz (SubL.refl _))
set_option maxHeartbeats 4000000 in
theorem rExpr_con (s : Str) (hs : s.length ≤ 1000000) : PCon env 16 [.str s] (resE (srcE s)) := by
  generalize hres : srcE s = res
  unfold srcE at hres
  have hz : Al.Sub (.agg [.int .i64 0, .int .i64 0, .int .u32 0, .str [], .nsl]) (.agg exZ.row) := by
    simp only [exZ, Ex.row_eq, Ex.kind, Ex.op, Ex.num, Ex.name, Ex.kids, List.map_nil]
    exact Sub.aggR (by repeat' (first | exact SubR.nil | exact SubRs.nil | exact Sub.refl _ | exact Sub.nsl _ | refine SubR.cons ?_ ?_ | refine SubRs.cons ?_ ?_ | refine Sub.isl ?_ | refine Sub.aggR ?_))
  cases hl : lexS s with
  | error x =>
    obtain ⟨i, e⟩ := x
    rw [hl] at hres
    simp only at hres
    subst hres
    have hL := rLex_err hs hl
    have he := lexS_err hl
    have hd : decide (e = 0) = false := decide_eq_false he
    refine con_of 49 [.cell 2 36, .tmp 3, .tmp 4] Tryd.func16 rfl rfl rfl rfl ?_
    refine awp_seq_k fun K hK => ?_
    refine awp_region rfl ?_
    simp only [hd, RR, seval]
    refine awpN_intro fun b2 hn2 => ?_
    simp only [hd, RR, seval]
    refine hK _ _ ?_; clear hK K
    refine awp_seq_k fun K hK => ?_
    refine awp_region rfl ?_
    simp only [hd, RR, seval]
    refine awpC_pure' (hL) ?_
    simp only [hd, RR, seval]
    refine hK _ _ ?_; clear hK K
    refine awp_seq ?_
    refine awp_seq_k fun K hK => ?_
    refine awp_region rfl ?_
    simp only [hd, RR, seval]
    refine hK _ _ ?_; clear hK K
    refine awp_if true rfl (fun _ => ?_) (fun hc => by cases hc)
    refine awp_seq_k fun K hK => ?_
    refine awp_region rfl ?_
    simp only [hd, RR, seval]
    refine hK _ _ ?_; clear hK K
    refine awp_ret ?_; simp only [bodyQ, aresult, ares, hd, RR, seval]
    refine ⟨resE _, emp, (Turn.sub ?_).trans (Turn.drop (hsub_emp _)), rfl, rfl⟩
    first | exact Sub.refl _ | exact Sub.tup (SubL.cons hz (SubL.refl _))
  | ok T =>
    rw [hl] at hres
    simp only at hres
    have hL := rLex_ok hs hl
    have hT := lexS_sz hl
    refine con_of 49 [.cell 2 36, .tmp 3, .tmp 4] Tryd.func16 rfl rfl rfl rfl ?_
    refine awp_seq_k fun K hK => ?_
    refine awp_region rfl ?_
    simp only [List.length_map, exV, Ex.row_eq, RR, seval]
    refine awpN_intro fun b2 hn2 => ?_
    simp only [List.length_map, exV, Ex.row_eq, RR, seval]
    refine hK _ _ ?_; clear hK K
    refine awp_seq_k fun K hK => ?_
    refine awp_region rfl ?_
    simp only [List.length_map, exV, Ex.row_eq, RR, seval]
    refine awpC_pure' (hL) ?_
    simp only [List.length_map, exV, Ex.row_eq, RR, seval]
    refine hK _ _ ?_; clear hK K
    refine awp_seq ?_
    refine awp_seq_k fun K hK => ?_
    refine awp_region rfl ?_
    simp only [List.length_map, exV, Ex.row_eq, RR, seval]
    refine hK _ _ ?_; clear hK K
    refine awp_if false rfl (fun hc => by cases hc) (fun _ => ?_)
    refine awp_skip ?_; try simp only [RR]
    refine awp_seq_k fun K hK => ?_
    refine awp_region rfl ?_
    simp only [List.length_map, exV, Ex.row_eq, RR, seval]
    refine awpN_intro fun b23 hn23 => ?_
    have nb23_b2 : b23 ≠ b2 := fun e => by rw [e] at hn23; simp only [RR, seval, reduceCtorEq] at hn23
    have nb2_b23 : b2 ≠ b23 := fun e => nb23_b2 e.symm
    simp only [nb23_b2, nb2_b23, List.length_map, exV, Ex.row_eq, RR, seval]
    refine hK _ _ ?_; clear hK K
    refine awp_seq_k fun K hK => ?_
    refine awp_region rfl ?_
    simp only [nb23_b2, nb2_b23, List.length_map, exV, Ex.row_eq, RR, seval]
    refine awpC_jd (jexpr_con b23 hT 0 false (Nat.zero_le _)) (by first | exact hb23 | (simp only [nb23_b2, nb2_b23, List.length_map, exV, Ex.row_eq, upd_app, RR, seval]; done)) trivial fun a25 m25 w25 M1 hj25 hle25 hlt25 hn25x hk25x => ?_
    rw [stW_f] at hj25
    have gb2 := hk25x b2 _ (by first | exact nb2_b23 | exact blk_ne hb2 hb23 (by decide) | (intro e; subst e; simp_all)) (by first | exact upd_same _ _ _ | (simp only [nb23_b2, nb2_b23, List.length_map, exV, Ex.row_eq, upd_app, RR, seval]; rfl))
    have hb2 := gb2; clear gb2
    have hb23 := hn25x; clear hn25x hk25x
    simp only [hb2, hb23, nb23_b2, nb2_b23, List.length_map, exV, Ex.row_eq, RR, seval]
    refine awpN_intro fun b9 hn9 => ?_
    have nb9_b2 : b9 ≠ b2 := fun e => by rw [e] at hn9; simp only [hb2, nb23_b2, nb2_b23, RR, seval, reduceCtorEq] at hn9
    have nb2_b9 : b2 ≠ b9 := fun e => nb9_b2 e.symm
    have nb9_b23 : b9 ≠ b23 := fun e => by rw [e] at hn9; simp only [hb23, nb23_b2, nb2_b23, RR, seval, reduceCtorEq] at hn9
    have nb23_b9 : b23 ≠ b9 := fun e => nb9_b23 e.symm
    simp only [hb2, hb23, nb23_b2, nb2_b23, nb9_b2, nb2_b9, nb9_b23, nb23_b9, List.length_map, exV, Ex.row_eq, RR, seval]
    refine hK _ _ ?_; clear hK K
    refine awp_seq ?_
    refine awp_seq_k fun K hK => ?_
    refine awp_region rfl ?_
    simp only [hb2, hb23, nb23_b2, nb2_b23, nb9_b2, nb2_b9, nb9_b23, nb23_b9, List.length_map, exV, Ex.row_eq, RR, seval]
    repeat' ((first | refine awpG_splitN (fun h => ?_) (fun h => ?_) | refine awpG_split (fun h => ?_) (fun h => ?_)) <;> simp only [h, hb2, hb23, nb23_b2, nb2_b23, nb9_b2, nb2_b9, nb9_b23, nb23_b9, List.length_map, exV, Ex.row_eq, RR, seval])
    all_goals
      refine hK _ _ ?_; clear hK K
      refine awp_if _ rfl (fun hc6 => ?_) (fun hc6 => ?_)
      · try (cases hc6; done)
        all_goals
          have hr : res = (exZ, atI T s.length m25, 3) := by
            cases hw : w25 with
            | true => rw [hw, stW_t] at hj25; rw [← hj25] at hres; exact hres.symm
            | false =>
              rw [hw, stW_f] at hj25; rw [← hj25] at hres
              have hlt : m25 < T.length := by
                first
                | (rw [hw] at h; cases h; done)
                | (have := of_decide_eq_true hc6; omega)
              simp only [if_pos hlt] at hres
              exact hres.symm
          subst hr
          refine awp_seq_k fun K hK => ?_
          refine awp_region rfl ?_
          simp only [hb2, hb23, nb23_b2, nb2_b23, nb9_b2, nb2_b9, nb9_b23, nb23_b9, List.length_map, exV, Ex.row_eq, RR, seval]
          refine awpC_jo (place_con b23 T m25 w25 hlt25 s) (by first | exact hb23 | (simp only [hb2, hb23, nb23_b2, nb2_b23, nb9_b2, nb2_b9, nb9_b23, nb23_b9, List.length_map, exV, Ex.row_eq, upd_app, RR, seval]; done)) trivial fun M2 hn42x hk42x => ?_
          have gb2 := hk42x b2 _ (by first | exact nb2_b23 | exact blk_ne hb2 hb23 (by decide) | (intro e; subst e; simp_all)) (by first | exact hb2 | exact upd_same _ _ _ | (simp only [hb2, hb23, nb23_b2, nb2_b23, nb9_b2, nb2_b9, nb9_b23, nb23_b9, List.length_map, exV, Ex.row_eq, upd_app, RR, seval]; rfl))
          have gb9 := hk42x b9 _ (by first | exact nb9_b23 | exact blk_ne hb9 hb23 (by decide) | (intro e; subst e; simp_all)) (by first | exact upd_same _ _ _ | (simp only [hb2, hb23, nb23_b2, nb2_b23, nb9_b2, nb2_b9, nb9_b23, nb23_b9, List.length_map, exV, Ex.row_eq, upd_app, RR, seval]; rfl))
          have hb2 := gb2; clear gb2
          have hb9 := gb9; clear gb9
          have hb23 := hn42x; clear hn42x hk42x
          simp only [hb2, hb23, hb9, nb23_b2, nb2_b23, nb9_b2, nb2_b9, nb9_b23, nb23_b9, List.length_map, exV, Ex.row_eq, RR, seval]
          refine hK _ _ ?_; clear hK K
          refine awp_ret ?_; simp only [bodyQ, aresult, ares, hb2, hb23, hb9, nb23_b2, nb2_b23, nb9_b2, nb2_b9, nb9_b23, nb23_b9, List.length_map, exV, Ex.row_eq, RR, seval]
          refine ⟨resE _, emp, (Turn.sub ?_).trans (Turn.drop (hsub_emp _)), rfl, rfl⟩
          first | exact Sub.refl _ | exact Sub.tup (SubL.cons hz (SubL.refl _)) | (simp only [resE, Ex.row_eq]; exact Sub.refl _)
      · try (cases hc6; done)
        all_goals
          have hw : w25 = false := by simpa using h
          have hlt : ¬ m25 < T.length := by have := of_decide_eq_false hc6; omega
          rw [hw, stW_f] at hj25
          rw [← hj25] at hres
          simp only [if_neg hlt] at hres
          have hok := exprP_ok hT hj25.symm
          have hA := alone_con a25
          rw [Ex.row_eq] at hA
          have hR := Right_con (aloneP a25) (alone_ok hok) fun f hf => by simp only [aloneP, List.mem_singleton] at hf; subst hf; exact Nat.zero_le _
          refine awp_skip ?_; try simp only [RR]
          refine awp_seq ?_
          refine awp_seq_k fun K hK => ?_
          refine awp_region rfl ?_
          simp only [hb2, hb23, nb23_b2, nb2_b23, nb9_b2, nb2_b9, nb9_b23, nb23_b9, List.length_map, exV, Ex.row_eq, RR, seval]
          refine awpC_pure' (hA) ?_
          simp only [hb2, hb23, nb23_b2, nb2_b23, nb9_b2, nb2_b9, nb9_b23, nb23_b9, List.length_map, exV, Ex.row_eq, RR, seval]
          refine awpC_pure' (hR) ?_
          simp only [hb2, hb23, nb23_b2, nb2_b23, nb9_b2, nb2_b9, nb9_b23, nb23_b9, List.length_map, exV, Ex.row_eq, RR, seval]
          refine hK _ _ ?_; clear hK K
          refine awp_if _ rfl (fun hc8 => ?_) (fun hc8 => ?_)
          · have hr : ¬ rightP (aloneP a25) = true := by simpa using hc8
            rw [if_neg hr] at hres
            subst hres
            refine awp_seq_k fun K hK => ?_
            refine awp_region rfl ?_
            simp only [hb2, hb23, nb23_b2, nb2_b23, nb9_b2, nb2_b9, nb9_b23, nb23_b9, List.length_map, exV, Ex.row_eq, RR, seval]
            refine hK _ _ ?_; clear hK K
            refine awp_ret ?_; simp only [bodyQ, aresult, ares, hb2, hb23, nb23_b2, nb2_b23, nb9_b2, nb2_b9, nb9_b23, nb23_b9, List.length_map, exV, Ex.row_eq, RR, seval]
            refine ⟨resE _, emp, (Turn.sub ?_).trans (Turn.drop (hsub_emp _)), rfl, rfl⟩
            first | exact Sub.refl _ | exact Sub.tup (SubL.cons hz (SubL.refl _)) | (simp only [resE, Ex.row_eq]; exact Sub.refl _)
          · have hr : rightP (aloneP a25) = true := by simpa using hc8
            rw [if_pos hr] at hres
            subst hres
            refine awp_skip ?_; try simp only [RR]
            refine awp_seq_k fun K hK => ?_
            refine awp_region rfl ?_
            simp only [hb2, hb23, nb23_b2, nb2_b23, nb9_b2, nb2_b9, nb9_b23, nb23_b9, List.length_map, exV, Ex.row_eq, RR, seval]
            refine hK _ _ ?_; clear hK K
            refine awp_ret ?_; simp only [bodyQ, aresult, ares, hb2, hb23, nb23_b2, nb2_b23, nb9_b2, nb2_b9, nb9_b23, nb23_b9, List.length_map, exV, Ex.row_eq, RR, seval]
            refine ⟨resE _, emp, (Turn.sub ?_).trans (Turn.drop (hsub_emp _)), rfl, rfl⟩
            first | exact Sub.refl _ | exact Sub.tup (SubL.cons hz (SubL.refl _)) | (simp only [resE, Ex.row_eq]; exact Sub.refl _)
end Go.Proofs.YtlpeikljipknoaaDoor
