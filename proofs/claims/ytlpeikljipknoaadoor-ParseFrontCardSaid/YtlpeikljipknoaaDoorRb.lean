/- Chapter 15, the program's: statements. Chapter 15, the program's: statements, from their parts. Chapter 15, the program's: functions. -/
import Derived.Test.YtlpeikljipknoaaDoorRa
set_option linter.unusedSimpArgs false
set_option linter.unusedVariables false
set_option maxRecDepth 10000
namespace Go.Proofs.YtlpeikljipknoaaDoor
open Go.Al
def smV (s : Sm) : AV := .agg [.int .i64 s.kind, .str s.name, .isl 5 (s.es.map Ex.row), .isl 5 (s.thn.map Sm.row), .isl 5 (s.els.map Sm.row)]
def smL (l : List Sm) : AV := .isl 5 (l.map Sm.row)
theorem smL_snoc (acc : List Sm) (s : Sm) : (acc ++ [s]).map Sm.row = acc.map Sm.row ++ [[.int .i64 s.kind, .str s.name, .isl 5 (s.es.map Ex.row), .isl 5 (s.thn.map Sm.row), .isl 5 (s.els.map Sm.row)]] := by
  rw [List.map_append, List.map_cons, List.map_nil, Sm.row_eq]
set_option maxHeartbeats 4000000 in
theorem named_con (r0 : Nat) {T : List Tok} (hT : Sz T) (n e : Nat) (hn : n ≤ T.length) : RCon 113 [] r0 T n e smV (namedP T n) := by
  unfold RCon
  generalize hres : namedP T n = res
  unfold namedP at hres
  generalize hH0 : rdH r0 T n e = H0
  have hr0 : H0 r0 = some (.rows 3 [[.isl 4 (T.map Tok.row), .int .i64 (n : Nat), .int .i64 (e : Nat)]]) := by rw [← hH0]; exact rdH_at _ _ _ _
  clear hH0
  have hlen := hT.len
  refine con_of 44 [.cell 2 72] Tryd.func113 rfl rfl rfl rfl ?_
  refine awp_seq_k fun K hK => ?_
  refine awp_region rfl ?_
  simp only [hr0, List.length_map, exV, exL, RR, seval]
  refine awpN_intro fun b2 hn2 => ?_
  have nb2_r0 : b2 ≠ r0 := fun e => by rw [e] at hn2; simp only [hr0, RR, seval, reduceCtorEq] at hn2
  have nr0_b2 : r0 ≠ b2 := fun e => nb2_r0 e.symm
  simp only [hr0, nb2_r0, nr0_b2, List.length_map, exV, exL, RR, seval]
  refine hK _ _ ?_; clear hK K
  refine awp_seq_k fun K hK => ?_
  refine awp_region rfl ?_
  simp only [hr0, nb2_r0, nr0_b2, List.length_map, exV, exL, RR, seval]
  refine awpC_rd (take_con r0 hT n e hn 1 (by decide)) (by first | exact hr0 | (simp only [hr0, nb2_r0, nr0_b2, List.length_map, exV, exL, upd_app, RR, seval]; done)) trivial ?_ ?_
  · intro n6x H6x hbd
    simp only [hbd, PR.bind_bad] at hres
    subst hres
    simp only [thenQ_pan, blockQ_pan, bodyQ_pan, rpost]
  intro a6 m6 M1 ho6 hn6x hk6x
  simp only [ho6, PR.bind_ok] at hres
  have gb2 := hk6x b2 _ (by first | exact nb2_r0 | exact blk_ne hb2 hr0 (by decide) | (intro e; subst e; simp_all)) (by first | exact upd_same _ _ _ | (simp only [hr0, nb2_r0, nr0_b2, List.length_map, exV, exL, upd_app, RR, seval]; rfl))
  have hb2 := gb2; clear gb2
  have hr0 := hn6x; clear hn6x hk6x
  simp only [hr0, hb2, nb2_r0, nr0_b2, List.length_map, exV, exL, RR, seval]
  refine awpN_intro fun b3 hn3 => ?_
  have nb3_r0 : b3 ≠ r0 := fun e => by rw [e] at hn3; simp only [hr0, nb2_r0, nr0_b2, RR, seval, reduceCtorEq] at hn3
  have nr0_b3 : r0 ≠ b3 := fun e => nb3_r0 e.symm
  have nb3_b2 : b3 ≠ b2 := fun e => by rw [e] at hn3; simp only [hb2, nb2_r0, nr0_b2, RR, seval, reduceCtorEq] at hn3
  have nb2_b3 : b2 ≠ b3 := fun e => nb3_b2 e.symm
  simp only [hr0, hb2, nb2_r0, nr0_b2, nb3_r0, nr0_b3, nb3_b2, nb2_b3, List.length_map, exV, exL, RR, seval]
  refine hK _ _ ?_; clear hK K
  have hm6 := take_ok ho6
  refine awp_seq ?_
  refine awp_name fun F2 M2 hfr hH => ?_
  have g0 := hfr 0
  have g2 := hfr 2
  have g3 := hfr 3
  have gr0 := hH r0
  have gb2 := hH b2
  have gb3 := hH b3
  try simp only [hr0, hb2, nb2_r0, nr0_b2, nb3_r0, nr0_b3, nb3_b2, nb2_b3, List.length_map, exV, exL, RR, seval] at g0 g2 g3 gr0 gb2 gb3
  have f0 := g0; clear g0
  have f2 := g2; clear g2
  have f3 := g3; clear g3
  have hr0 := gr0; clear gr0
  have hb2 := gb2; clear gb2
  have hb3 := gb3; clear gb3
  clear hfr hH
  refine awp_cutP (fun fr M => agree [0, 2, 3] F2 fr ∧ M b2 = M2 b2 ∧ ∃ (x : Sm) (m : Nat), n < m ∧ m ≤ T.length ∧ ((mustI T [59] m).bind fun _ m => .ok x m) = res ∧ (∃ v1 v2 v3 v4 v5, M b3 = some (.rows 5 [[v1, v2, v3, v4, v5]]) ∧ one v1 = true ∧ one v2 = true ∧ one v3 = true ∧ one v4 = true ∧ one v5 = true ∧ Al.Sub (.agg [v1, v2, v3, v4, v5]) (smV x)) ∧ M r0 = some (.rows 3 [[.isl 4 (T.map Tok.row), .int .i64 (m : Nat), .int .i64 (e : Nat)]])) (fun KB0 hKB0 => ?_) ?_
  · have agB0 := agree.refl [0, 2, 3] F2
    have eB0_b2 : M2 b2 = M2 b2 := rfl
    refine awp_block ?_
    refine awp_seq_k fun K hK => ?_
    refine awp_region rfl ?_
    simp only [f0, hr0, hb2, hb3, nb2_r0, nr0_b2, nb3_r0, nr0_b3, nb3_b2, nb2_b3, List.length_map, exV, exL, RR, seval]
    refine awpC_rdo (may_con r0 hT m6 e (by omega) [61] (by decide)) (by first | exact hr0 | (simp only [f0, f2, f3, hr0, hb2, hb3, nb2_r0, nr0_b2, nb3_r0, nr0_b3, nb3_b2, nb2_b3, List.length_map, exV, exL, upd_app, RR, seval]; done)) trivial fun M3 hn13x hk13x => ?_
    have gb2 := hk13x b2 _ (by first | exact nb2_r0 | exact blk_ne hb2 hr0 (by decide) | (intro e; subst e; simp_all)) (by first | exact hb2 | exact upd_same _ _ _ | (simp only [f0, f2, f3, hr0, hb2, hb3, nb2_r0, nr0_b2, nb3_r0, nr0_b3, nb3_b2, nb2_b3, List.length_map, exV, exL, upd_app, RR, seval]; rfl))
    have eB0_b2 := (gb2.trans hb2.symm).trans eB0_b2
    have gb3 := hk13x b3 _ (by first | exact nb3_r0 | exact blk_ne hb3 hr0 (by decide) | (intro e; subst e; simp_all)) (by first | exact hb3 | exact upd_same _ _ _ | (simp only [f0, f2, f3, hr0, hb2, hb3, nb2_r0, nr0_b2, nb3_r0, nr0_b3, nb3_b2, nb2_b3, List.length_map, exV, exL, upd_app, RR, seval]; rfl))
    have hb2 := gb2; clear gb2
    have hb3 := gb3; clear gb3
    have hr0 := hn13x; clear hn13x hk13x
    simp only [f0, hr0, hb2, hb3, nb2_r0, nr0_b2, nb3_r0, nr0_b3, nb3_b2, nb2_b3, List.length_map, exV, exL, RR, seval]
    refine hK _ _ ?_; clear hK K
    refine awp_if _ rfl (fun hc3 => ?_) (fun hc3 => ?_)
    · simp only [decide_eq_true_eq, decide_eq_false_iff_not, Bool.not_eq_true', Bool.not_eq_false', Bool.not_true, Bool.not_false] at hc3
      simp only [if_pos hc3] at hres hr0 ⊢
      refine awp_seq_k fun K hK => ?_
      refine awp_region rfl ?_
      simp only [f3, hr0, hb2, hb3, nb2_r0, nr0_b2, nb3_r0, nr0_b3, nb3_b2, nb2_b3, List.length_map, exV, exL, RR, seval]
      refine hK _ _ ?_; clear hK K
      refine awp_region rfl ?_
      simp only [f0, f3, hr0, hb2, hb3, nb2_r0, nr0_b2, nb3_r0, nr0_b3, nb3_b2, nb2_b3, List.length_map, exV, exL, RR, seval]
      refine awpC_rd (expr_con r0 hT (m6 + 1) e (by have := peek_lt hc3 (by decide); omega)) (by first | exact hr0 | (simp only [f0, f2, f3, hr0, hb2, hb3, nb2_r0, nr0_b2, nb3_r0, nr0_b3, nb3_b2, nb2_b3, List.length_map, exV, exL, upd_app, RR, seval]; done)) trivial ?_ ?_
      · intro n16x H16x hbd
        simp only [hbd, PR.bind_bad] at hres
        subst hres
        simp only [thenQ_pan, blockQ_pan, bodyQ_pan, rpost]
      intro a16 m16 M4 ho16 hn16x hk16x
      simp only [ho16, PR.bind_ok] at hres
      have gb2 := hk16x b2 _ (by first | exact nb2_r0 | exact blk_ne hb2 hr0 (by decide) | (intro e; subst e; simp_all)) (by first | exact hb2 | exact upd_same _ _ _ | (simp only [f0, f2, f3, hr0, hb2, hb3, nb2_r0, nr0_b2, nb3_r0, nr0_b3, nb3_b2, nb2_b3, List.length_map, exV, exL, upd_app, RR, seval]; rfl))
      have eB0_b2 := (gb2.trans hb2.symm).trans eB0_b2
      have gb3 := hk16x b3 _ (by first | exact nb3_r0 | exact blk_ne hb3 hr0 (by decide) | (intro e; subst e; simp_all)) (by first | exact hb3 | exact upd_same _ _ _ | (simp only [f0, f2, f3, hr0, hb2, hb3, nb2_r0, nr0_b2, nb3_r0, nr0_b3, nb3_b2, nb2_b3, List.length_map, exV, exL, upd_app, RR, seval]; rfl))
      have hb2 := gb2; clear gb2
      have hb3 := gb3; clear gb3
      have hr0 := hn16x; clear hn16x hk16x
      simp only [f0, f3, hr0, hb2, hb3, nb2_r0, nr0_b2, nb3_r0, nr0_b3, nb3_b2, nb2_b3, List.length_map, exV, exL, RR, seval]
      refine awpB_sealed ?_
      simp only [f0, f3, hr0, hb2, hb3, nb2_r0, nr0_b2, nb3_r0, nr0_b3, nb3_b2, nb2_b3, List.length_map, exV, exL, RR, seval]
      have hm16 := exprP_far ho16
      refine hKB0 _ _ ⟨(by repeat (first | exact agB0 | refine agree.upd rfl ?_)), (by first | exact eB0_b2 | (simp only [nb2_r0, nr0_b2, nb3_r0, nr0_b3, nb3_b2, nb2_b3, upd_app, seval]; first | done | exact eB0_b2)), ?_⟩
      refine ⟨_, _, ?_, ?_, hres, ⟨_, _, _, _, _, by first | exact upd_same _ _ _ | (simp only [f0, f2, f3, hr0, hb2, hb3, nb2_r0, nr0_b2, nb3_r0, nr0_b3, nb3_b2, nb2_b3, List.length_map, exV, exL, upd_app, RR, seval]; rfl), rfl, rfl, rfl, rfl, rfl, ?_⟩, by first | exact hr0 | (simp only [f0, f2, f3, hr0, hb2, hb3, nb2_r0, nr0_b2, nb3_r0, nr0_b3, nb3_b2, nb2_b3, List.length_map, exV, exL, upd_app, RR, seval]; done)⟩
      · omega
      · omega
      simp only [smV, Sm.kind, Sm.name, Sm.es, Sm.thn, Sm.els, List.map_cons, List.map_nil, Ex.row_eq]
      exact Sub.aggR (by repeat' (first | exact SubR.nil | exact SubRs.nil | exact Sub.refl _ | exact Sub.nsl _ | refine SubR.cons ?_ ?_ | refine SubRs.cons ?_ ?_ | refine Sub.isl ?_ | refine Sub.aggR ?_))
    · simp only [decide_eq_true_eq, decide_eq_false_iff_not, Bool.not_eq_true', Bool.not_eq_false', Bool.not_true, Bool.not_false] at hc3
      simp only [if_neg hc3] at hres hr0 ⊢
      refine awp_seq_k fun K hK => ?_
      refine awp_region rfl ?_
      simp only [f0, hr0, hb2, hb3, nb2_r0, nr0_b2, nb3_r0, nr0_b3, nb3_b2, nb2_b3, List.length_map, exV, exL, RR, seval]
      refine awpC_rdo (may_con r0 hT m6 e (by omega) [91] (by decide)) (by first | exact hr0 | (simp only [f0, f2, f3, hr0, hb2, hb3, nb2_r0, nr0_b2, nb3_r0, nr0_b3, nb3_b2, nb2_b3, List.length_map, exV, exL, upd_app, RR, seval]; done)) trivial fun M5 hn21x hk21x => ?_
      have gb2 := hk21x b2 _ (by first | exact nb2_r0 | exact blk_ne hb2 hr0 (by decide) | (intro e; subst e; simp_all)) (by first | exact hb2 | exact upd_same _ _ _ | (simp only [f0, f2, f3, hr0, hb2, hb3, nb2_r0, nr0_b2, nb3_r0, nr0_b3, nb3_b2, nb2_b3, List.length_map, exV, exL, upd_app, RR, seval]; rfl))
      have eB0_b2 := (gb2.trans hb2.symm).trans eB0_b2
      have gb3 := hk21x b3 _ (by first | exact nb3_r0 | exact blk_ne hb3 hr0 (by decide) | (intro e; subst e; simp_all)) (by first | exact hb3 | exact upd_same _ _ _ | (simp only [f0, f2, f3, hr0, hb2, hb3, nb2_r0, nr0_b2, nb3_r0, nr0_b3, nb3_b2, nb2_b3, List.length_map, exV, exL, upd_app, RR, seval]; rfl))
      have hb2 := gb2; clear gb2
      have hb3 := gb3; clear gb3
      have hr0 := hn21x; clear hn21x hk21x
      simp only [f0, hr0, hb2, hb3, nb2_r0, nr0_b2, nb3_r0, nr0_b3, nb3_b2, nb2_b3, List.length_map, exV, exL, RR, seval]
      refine hK _ _ ?_; clear hK K
      refine awp_if _ rfl (fun hc6 => ?_) (fun hc6 => ?_)
      · simp only [decide_eq_true_eq, decide_eq_false_iff_not, Bool.not_eq_true', Bool.not_eq_false', Bool.not_true, Bool.not_false] at hc6
        simp only [if_pos hc6] at hres hr0 ⊢
        refine awp_seq_k fun K hK => ?_
        refine awp_region rfl ?_
        simp only [f0, hr0, hb2, hb3, nb2_r0, nr0_b2, nb3_r0, nr0_b3, nb3_b2, nb2_b3, List.length_map, exV, exL, RR, seval]
        refine awpC_rd (expr_con r0 hT (m6 + 1) e (by have := peek_lt hc6 (by decide); omega)) (by first | exact hr0 | (simp only [f0, f2, f3, hr0, hb2, hb3, nb2_r0, nr0_b2, nb3_r0, nr0_b3, nb3_b2, nb2_b3, List.length_map, exV, exL, upd_app, RR, seval]; done)) trivial ?_ ?_
        · intro n23x H23x hbd
          simp only [hbd, PR.bind_bad] at hres
          subst hres
          simp only [thenQ_pan, blockQ_pan, bodyQ_pan, rpost]
        intro a23 m23 M6 ho23 hn23x hk23x
        simp only [ho23, PR.bind_ok] at hres
        have gb2 := hk23x b2 _ (by first | exact nb2_r0 | exact blk_ne hb2 hr0 (by decide) | (intro e; subst e; simp_all)) (by first | exact hb2 | exact upd_same _ _ _ | (simp only [f0, f2, f3, hr0, hb2, hb3, nb2_r0, nr0_b2, nb3_r0, nr0_b3, nb3_b2, nb2_b3, List.length_map, exV, exL, upd_app, RR, seval]; rfl))
        have eB0_b2 := (gb2.trans hb2.symm).trans eB0_b2
        have gb3 := hk23x b3 _ (by first | exact nb3_r0 | exact blk_ne hb3 hr0 (by decide) | (intro e; subst e; simp_all)) (by first | exact hb3 | exact upd_same _ _ _ | (simp only [f0, f2, f3, hr0, hb2, hb3, nb2_r0, nr0_b2, nb3_r0, nr0_b3, nb3_b2, nb2_b3, List.length_map, exV, exL, upd_app, RR, seval]; rfl))
        have hb2 := gb2; clear gb2
        have hb3 := gb3; clear gb3
        have hr0 := hn23x; clear hn23x hk23x
        simp only [f0, hr0, hb2, hb3, nb2_r0, nr0_b2, nb3_r0, nr0_b3, nb3_b2, nb2_b3, List.length_map, exV, exL, RR, seval]
        refine awpN_intro fun b4 hn4 => ?_
        have nb4_r0 : b4 ≠ r0 := fun e => by rw [e] at hn4; simp only [hr0, nb2_r0, nr0_b2, nb3_r0, nr0_b3, RR, seval, reduceCtorEq] at hn4
        have nr0_b4 : r0 ≠ b4 := fun e => nb4_r0 e.symm
        have nb4_b2 : b4 ≠ b2 := fun e => by rw [e] at hn4; simp only [hb2, nb2_r0, nr0_b2, nb3_r0, nr0_b3, nb3_b2, nb2_b3, RR, seval, reduceCtorEq] at hn4
        have nb2_b4 : b2 ≠ b4 := fun e => nb4_b2 e.symm
        have nb4_b3 : b4 ≠ b3 := fun e => by rw [e] at hn4; simp only [hb3, nb2_r0, nr0_b2, nb3_r0, nr0_b3, nb3_b2, nb2_b3, RR, seval, reduceCtorEq] at hn4
        have nb3_b4 : b3 ≠ b4 := fun e => nb4_b3 e.symm
        simp only [f0, hr0, hb2, hb3, nb2_r0, nr0_b2, nb3_r0, nr0_b3, nb3_b2, nb2_b3, nb4_r0, nr0_b4, nb4_b2, nb2_b4, nb4_b3, nb3_b4, List.length_map, exV, exL, RR, seval]
        refine hK _ _ ?_; clear hK K
        have hm23 := exprP_far ho23
        refine awp_seq_k fun K hK => ?_
        refine awp_region rfl ?_
        simp only [f0, hr0, hb2, hb3, nb2_r0, nr0_b2, nb3_r0, nr0_b3, nb3_b2, nb2_b3, nb4_r0, nr0_b4, nb4_b2, nb2_b4, nb4_b3, nb3_b4, List.length_map, exV, exL, RR, seval]
        refine awpB_sealed ?_
        simp only [f0, hr0, hb2, hb3, nb2_r0, nr0_b2, nb3_r0, nr0_b3, nb3_b2, nb2_b3, nb4_r0, nr0_b4, nb4_b2, nb2_b4, nb4_b3, nb3_b4, List.length_map, exV, exL, RR, seval]
        refine awpC_rd (must2_con r0 hT m23 e (by omega) [93] [61] (by decide) (by decide)) (by first | exact hr0 | (simp only [f0, f2, f3, hr0, hb2, hb3, nb2_r0, nr0_b2, nb3_r0, nr0_b3, nb3_b2, nb2_b3, nb4_r0, nr0_b4, nb4_b2, nb2_b4, nb4_b3, nb3_b4, List.length_map, exV, exL, upd_app, RR, seval]; done)) trivial ?_ ?_
        · intro n26x H26x hbd
          rw [bind2, hbd, PR.bind_bad, PR.bind_bad] at hres
          subst hres
          simp only [thenQ_pan, blockQ_pan, bodyQ_pan, rpost]
        intro a26 m26 M7 ho26 hn26x hk26x
        rw [bind2, ho26, PR.bind_ok] at hres
        have hm26 : m23 < m26 ∧ m26 ≤ T.length := by
          obtain ⟨_, a, h1, h2⟩ := PR.bind_eq_ok ho26
          have := must_ok h1 (by decide)
          have := must_ok h2 (by decide)
          omega
        have gb2 := hk26x b2 _ (by first | exact nb2_r0 | exact blk_ne hb2 hr0 (by decide) | (intro e; subst e; simp_all)) (by first | exact hb2 | exact upd_same _ _ _ | (simp only [f0, f2, f3, hr0, hb2, hb3, nb2_r0, nr0_b2, nb3_r0, nr0_b3, nb3_b2, nb2_b3, nb4_r0, nr0_b4, nb4_b2, nb2_b4, nb4_b3, nb3_b4, List.length_map, exV, exL, upd_app, RR, seval]; rfl))
        have eB0_b2 := (gb2.trans hb2.symm).trans eB0_b2
        have gb3 := hk26x b3 _ (by first | exact nb3_r0 | exact blk_ne hb3 hr0 (by decide) | (intro e; subst e; simp_all)) (by first | exact hb3 | exact upd_same _ _ _ | (simp only [f0, f2, f3, hr0, hb2, hb3, nb2_r0, nr0_b2, nb3_r0, nr0_b3, nb3_b2, nb2_b3, nb4_r0, nr0_b4, nb4_b2, nb2_b4, nb4_b3, nb3_b4, List.length_map, exV, exL, upd_app, RR, seval]; rfl))
        have gb4 := hk26x b4 _ (by first | exact nb4_r0 | exact blk_ne hb4 hr0 (by decide) | (intro e; subst e; simp_all)) (by first | exact upd_same _ _ _ | (simp only [f0, f2, f3, hr0, hb2, hb3, nb2_r0, nr0_b2, nb3_r0, nr0_b3, nb3_b2, nb2_b3, nb4_r0, nr0_b4, nb4_b2, nb2_b4, nb4_b3, nb3_b4, List.length_map, exV, exL, upd_app, RR, seval]; rfl))
        have hb2 := gb2; clear gb2
        have hb3 := gb3; clear gb3
        have hb4 := gb4; clear gb4
        have hr0 := hn26x; clear hn26x hk26x
        simp only [f0, hr0, hb2, hb3, hb4, nb2_r0, nr0_b2, nb3_r0, nr0_b3, nb3_b2, nb2_b3, nb4_r0, nr0_b4, nb4_b2, nb2_b4, nb4_b3, nb3_b4, List.length_map, exV, exL, RR, seval]
        refine hK _ _ ?_; clear hK K
        refine awp_seq_k fun K hK => ?_
        refine awp_region rfl ?_
        simp only [f3, hr0, hb2, hb3, hb4, nb2_r0, nr0_b2, nb3_r0, nr0_b3, nb3_b2, nb2_b3, nb4_r0, nr0_b4, nb4_b2, nb2_b4, nb4_b3, nb3_b4, List.length_map, exV, exL, RR, seval]
        refine hK _ _ ?_; clear hK K
        refine awp_name fun F8 M8 hfr hH => ?_
        have g0 := hfr 0
        have g2 := hfr 2
        have g3 := hfr 3
        have g4 := hfr 4
        have gr0 := hH r0
        have gb2 := hH b2
        have gb3 := hH b3
        have gb4 := hH b4
        try simp only [f0, f2, f3, hr0, hb2, hb3, hb4, nb2_r0, nr0_b2, nb3_r0, nr0_b3, nb3_b2, nb2_b3, nb4_r0, nr0_b4, nb4_b2, nb2_b4, nb4_b3, nb3_b4, List.length_map, exV, exL, RR, seval] at g0 g2 g3 g4 gr0 gb2 gb3 gb4
        have agB0 : agree [0, 2, 3] F2 F8 := agree.same hfr (by repeat (first | exact agB0 | refine agree.upd rfl ?_))
        have eB0_b2 := (hH b2).trans (by first | exact eB0_b2 | (simp only [nb2_r0, nr0_b2, nb3_r0, nr0_b3, nb3_b2, nb2_b3, nb4_r0, nr0_b4, nb4_b2, nb2_b4, nb4_b3, nb3_b4, upd_app, seval]; first | done | exact eB0_b2))
        have f0 := g0; clear g0
        have f2 := g2; clear g2
        have f3 := g3; clear g3
        have f4 := g4; clear g4
        have hr0 := gr0; clear gr0
        have hb2 := gb2; clear gb2
        have hb3 := gb3; clear gb3
        have hb4 := gb4; clear gb4
        clear hfr hH
        refine awp_region_draw2 (fun x => x ≠ b2 ∧ x ≠ b3 ∧ x ≠ b4) [(0, 0), (1, 3), (2, 1), (3, 2), (4, 3)] [(5, 1)] draws (by kernel_rfl) rfl rfl ?_
        simp only [emitF, markOf, EM, f0, f3, f4, hr0, hb2, hb3, hb4, nb2_r0, nr0_b2, nb3_r0, nr0_b3, nb3_b2, nb2_b3, nb4_r0, nr0_b4, nb4_b2, nb2_b4, nb4_b3, nb3_b4, List.length_map, exV, exL, RR, seval]
        refine awpC_rd (expr_con r0 hT m26 e (by omega)) (by first | exact hr0 | (simp only [f0, f2, f3, f4, hr0, hb2, hb3, hb4, nb2_r0, nr0_b2, nb3_r0, nr0_b3, nb3_b2, nb2_b3, nb4_r0, nr0_b4, nb4_b2, nb2_b4, nb4_b3, nb3_b4, List.length_map, exV, exL, upd_app, RR, seval]; done)) (by first | trivial | (repeat' apply And.intro) <;> assumption) ?_ ?_
        · intro n30x H30x hbd
          simp only [hbd, PR.bind_bad] at hres
          subst hres
          simp only [thenQ_pan, blockQ_pan, bodyQ_pan, rpost]
        intro a30 m30 M9 ho30 hn30x hk30x
        simp only [ho30, PR.bind_ok] at hres
        have gb2 := hk30x b2 _ (by first | exact nb2_r0 | exact blk_ne hb2 hr0 (by decide) | (intro e; subst e; simp_all)) (by first | exact hb2 | exact upd_same _ _ _ | (simp only [f0, f2, f3, f4, hr0, hb2, hb3, hb4, nb2_r0, nr0_b2, nb3_r0, nr0_b3, nb3_b2, nb2_b3, nb4_r0, nr0_b4, nb4_b2, nb2_b4, nb4_b3, nb3_b4, List.length_map, exV, exL, upd_app, RR, seval]; rfl))
        have eB0_b2 := (gb2.trans hb2.symm).trans eB0_b2
        have gb3 := hk30x b3 _ (by first | exact nb3_r0 | exact blk_ne hb3 hr0 (by decide) | (intro e; subst e; simp_all)) (by first | exact hb3 | exact upd_same _ _ _ | (simp only [f0, f2, f3, f4, hr0, hb2, hb3, hb4, nb2_r0, nr0_b2, nb3_r0, nr0_b3, nb3_b2, nb2_b3, nb4_r0, nr0_b4, nb4_b2, nb2_b4, nb4_b3, nb3_b4, List.length_map, exV, exL, upd_app, RR, seval]; rfl))
        have gb4 := hk30x b4 _ (by first | exact nb4_r0 | exact blk_ne hb4 hr0 (by decide) | (intro e; subst e; simp_all)) (by first | exact hb4 | exact upd_same _ _ _ | (simp only [f0, f2, f3, f4, hr0, hb2, hb3, hb4, nb2_r0, nr0_b2, nb3_r0, nr0_b3, nb3_b2, nb2_b3, nb4_r0, nr0_b4, nb4_b2, nb2_b4, nb4_b3, nb3_b4, List.length_map, exV, exL, upd_app, RR, seval]; rfl))
        have hb2 := gb2; clear gb2
        have hb3 := gb3; clear gb3
        have hb4 := gb4; clear gb4
        have hr0 := hn30x; clear hn30x hk30x
        simp only [emitF, markOf, EM, f0, f3, f4, hr0, hb2, hb3, hb4, nb2_r0, nr0_b2, nb3_r0, nr0_b3, nb3_b2, nb2_b3, nb4_r0, nr0_b4, nb4_b2, nb2_b4, nb4_b3, nb3_b4, List.length_map, exV, exL, RR, seval]
        have hm30 := exprP_far ho30
        refine hKB0 _ _ ⟨(by repeat (first | exact agB0 | refine agree.upd rfl ?_)), (by first | exact eB0_b2 | (simp only [nb2_r0, nr0_b2, nb3_r0, nr0_b3, nb3_b2, nb2_b3, nb4_r0, nr0_b4, nb4_b2, nb2_b4, nb4_b3, nb3_b4, upd_app, seval]; first | done | exact eB0_b2)), ?_⟩
        refine ⟨_, _, ?_, ?_, hres, ⟨_, _, _, _, _, by first | exact upd_same _ _ _ | (simp only [f0, f2, f3, f4, hr0, hb2, hb3, hb4, nb2_r0, nr0_b2, nb3_r0, nr0_b3, nb3_b2, nb2_b3, nb4_r0, nr0_b4, nb4_b2, nb2_b4, nb4_b3, nb3_b4, List.length_map, exV, exL, upd_app, RR, seval]; rfl), rfl, rfl, rfl, rfl, rfl, ?_⟩, by first | exact hr0 | (simp only [f0, f2, f3, f4, hr0, hb2, hb3, hb4, nb2_r0, nr0_b2, nb3_r0, nr0_b3, nb3_b2, nb2_b3, nb4_r0, nr0_b4, nb4_b2, nb2_b4, nb4_b3, nb3_b4, List.length_map, exV, exL, upd_app, RR, seval]; done)⟩
        · omega
        · omega
        simp only [smV, Sm.kind, Sm.name, Sm.es, Sm.thn, Sm.els, List.map_cons, List.map_nil, Ex.row_eq]
        exact Sub.aggR (by repeat' (first | exact SubR.nil | exact SubRs.nil | exact Sub.refl _ | exact Sub.nsl _ | refine SubR.cons ?_ ?_ | refine SubRs.cons ?_ ?_ | refine Sub.isl ?_ | refine Sub.aggR ?_))
      · simp only [decide_eq_true_eq, decide_eq_false_iff_not, Bool.not_eq_true', Bool.not_eq_false', Bool.not_true, Bool.not_false] at hc6
        simp only [if_neg hc6] at hres hr0 ⊢
        refine awp_seq_k fun K hK => ?_
        refine awp_region rfl ?_
        simp only [f0, hr0, hb2, hb3, nb2_r0, nr0_b2, nb3_r0, nr0_b3, nb3_b2, nb2_b3, List.length_map, exV, exL, RR, seval]
        refine awpC_rdo (may_con r0 hT m6 e (by omega) [40] (by decide)) (by first | exact hr0 | (simp only [f0, f2, f3, hr0, hb2, hb3, nb2_r0, nr0_b2, nb3_r0, nr0_b3, nb3_b2, nb2_b3, List.length_map, exV, exL, upd_app, RR, seval]; done)) trivial fun M10 hn35x hk35x => ?_
        have gb2 := hk35x b2 _ (by first | exact nb2_r0 | exact blk_ne hb2 hr0 (by decide) | (intro e; subst e; simp_all)) (by first | exact hb2 | exact upd_same _ _ _ | (simp only [f0, f2, f3, hr0, hb2, hb3, nb2_r0, nr0_b2, nb3_r0, nr0_b3, nb3_b2, nb2_b3, List.length_map, exV, exL, upd_app, RR, seval]; rfl))
        have eB0_b2 := (gb2.trans hb2.symm).trans eB0_b2
        have gb3 := hk35x b3 _ (by first | exact nb3_r0 | exact blk_ne hb3 hr0 (by decide) | (intro e; subst e; simp_all)) (by first | exact hb3 | exact upd_same _ _ _ | (simp only [f0, f2, f3, hr0, hb2, hb3, nb2_r0, nr0_b2, nb3_r0, nr0_b3, nb3_b2, nb2_b3, List.length_map, exV, exL, upd_app, RR, seval]; rfl))
        have hb2 := gb2; clear gb2
        have hb3 := gb3; clear gb3
        have hr0 := hn35x; clear hn35x hk35x
        simp only [f0, hr0, hb2, hb3, nb2_r0, nr0_b2, nb3_r0, nr0_b3, nb3_b2, nb2_b3, List.length_map, exV, exL, RR, seval]
        refine hK _ _ ?_; clear hK K
        refine awp_if _ rfl (fun hc11 => ?_) (fun hc11 => ?_)
        · simp only [decide_eq_true_eq, decide_eq_false_iff_not, Bool.not_eq_true', Bool.not_eq_false', Bool.not_true, Bool.not_false] at hc11
          simp only [if_pos hc11] at hres hr0 ⊢
          refine awp_seq_k fun K hK => ?_
          refine awp_region rfl ?_
          simp only [f3, hr0, hb2, hb3, nb2_r0, nr0_b2, nb3_r0, nr0_b3, nb3_b2, nb2_b3, List.length_map, exV, exL, RR, seval]
          refine hK _ _ ?_; clear hK K
          refine awp_region rfl ?_
          simp only [f0, f3, hr0, hb2, hb3, nb2_r0, nr0_b2, nb3_r0, nr0_b3, nb3_b2, nb2_b3, List.length_map, exV, exL, RR, seval]
          refine awpC_rd (args_con r0 hT (m6 + 1) e (by have := peek_lt hc11 (by decide); omega)) (by first | exact hr0 | (simp only [f0, f2, f3, hr0, hb2, hb3, nb2_r0, nr0_b2, nb3_r0, nr0_b3, nb3_b2, nb2_b3, List.length_map, exV, exL, upd_app, RR, seval]; done)) trivial ?_ ?_
          · intro n38x H38x hbd
            simp only [hbd, PR.bind_bad] at hres
            subst hres
            simp only [thenQ_pan, blockQ_pan, bodyQ_pan, rpost]
          intro a38 m38 M11 ho38 hn38x hk38x
          simp only [ho38, PR.bind_ok] at hres
          have gb2 := hk38x b2 _ (by first | exact nb2_r0 | exact blk_ne hb2 hr0 (by decide) | (intro e; subst e; simp_all)) (by first | exact hb2 | exact upd_same _ _ _ | (simp only [f0, f2, f3, hr0, hb2, hb3, nb2_r0, nr0_b2, nb3_r0, nr0_b3, nb3_b2, nb2_b3, List.length_map, exV, exL, upd_app, RR, seval]; rfl))
          have eB0_b2 := (gb2.trans hb2.symm).trans eB0_b2
          have gb3 := hk38x b3 _ (by first | exact nb3_r0 | exact blk_ne hb3 hr0 (by decide) | (intro e; subst e; simp_all)) (by first | exact hb3 | exact upd_same _ _ _ | (simp only [f0, f2, f3, hr0, hb2, hb3, nb2_r0, nr0_b2, nb3_r0, nr0_b3, nb3_b2, nb2_b3, List.length_map, exV, exL, upd_app, RR, seval]; rfl))
          have hb2 := gb2; clear gb2
          have hb3 := gb3; clear gb3
          have hr0 := hn38x; clear hn38x hk38x
          simp only [f0, f3, hr0, hb2, hb3, nb2_r0, nr0_b2, nb3_r0, nr0_b3, nb3_b2, nb2_b3, List.length_map, exV, exL, RR, seval]
          have hm38 := argsP_far ho38
          refine hKB0 _ _ ⟨(by repeat (first | exact agB0 | refine agree.upd rfl ?_)), (by first | exact eB0_b2 | (simp only [nb2_r0, nr0_b2, nb3_r0, nr0_b3, nb3_b2, nb2_b3, upd_app, seval]; first | done | exact eB0_b2)), ?_⟩
          refine ⟨_, _, ?_, ?_, hres, ⟨_, _, _, _, _, by first | exact upd_same _ _ _ | (simp only [f0, f2, f3, hr0, hb2, hb3, nb2_r0, nr0_b2, nb3_r0, nr0_b3, nb3_b2, nb2_b3, List.length_map, exV, exL, upd_app, RR, seval]; rfl), rfl, rfl, rfl, rfl, rfl, ?_⟩, by first | exact hr0 | (simp only [f0, f2, f3, hr0, hb2, hb3, nb2_r0, nr0_b2, nb3_r0, nr0_b3, nb3_b2, nb2_b3, List.length_map, exV, exL, upd_app, RR, seval]; done)⟩
          · omega
          · omega
          simp only [smV, Sm.kind, Sm.name, Sm.es, Sm.thn, Sm.els, List.map_cons, List.map_nil, Ex.row_eq]
          exact Sub.aggR (by repeat' (first | exact SubR.nil | exact SubRs.nil | exact Sub.refl _ | exact Sub.nsl _ | refine SubR.cons ?_ ?_ | refine SubRs.cons ?_ ?_ | refine Sub.isl ?_ | refine Sub.aggR ?_))
        · simp only [decide_eq_true_eq, decide_eq_false_iff_not, Bool.not_eq_true', Bool.not_eq_false', Bool.not_true, Bool.not_false] at hc11
          simp only [if_neg hc11] at hres hr0 ⊢
          refine awp_region rfl ?_
          simp only [f0, hr0, hb2, hb3, nb2_r0, nr0_b2, nb3_r0, nr0_b3, nb3_b2, nb2_b3, List.length_map, exV, exL, RR, seval]
          refine awpC_rd (fail_con r0 T m6 e (by omega) (fun _ : Unit => .tup [])) (by first | exact hr0 | (simp only [f0, f2, f3, hr0, hb2, hb3, nb2_r0, nr0_b2, nb3_r0, nr0_b3, nb3_b2, nb2_b3, List.length_map, exV, exL, upd_app, RR, seval]; done)) trivial ?_ (fun a n' _ hk => by cases hk)
          intro n1 H1 hbd
          cases hbd
          simp only [PR.bind_bad] at hres
          subst hres
          simp only [thenQ_pan, blockQ_pan, bodyQ_pan, rpost]
  rintro F12 M12 ⟨agx, gb2, x, m, hnm, hm, hres, ⟨v1, v2, v3, v4, v5, hb3, w1, w2, w3, w4, w5, hsub⟩, hr0⟩
  have f0 := (agx 0 rfl).trans f0
  have f2 := (agx 2 rfl).trans f2
  have f3 := (agx 3 rfl).trans f3
  have hb2 := gb2.trans hb2
  clear agx
  clear gb2
  simp only [RR, seval]
  refine awp_seq_k fun K hK => ?_
  refine awp_region rfl ?_
  simp only [f0, hb2, hb3, hr0, nb2_r0, nr0_b2, nb3_r0, nr0_b3, nb3_b2, nb2_b3, List.length_map, exV, exL, w1, w2, w3, w4, w5, RR, seval]
  refine awpB_sealed ?_
  simp only [f0, hb2, hb3, hr0, nb2_r0, nr0_b2, nb3_r0, nr0_b3, nb3_b2, nb2_b3, List.length_map, exV, exL, w1, w2, w3, w4, w5, RR, seval]
  refine awpC_rd (must_con r0 hT m e hm [59] (by decide)) (by first | exact hr0 | (simp only [f0, f2, f3, hb2, hb3, hr0, nb2_r0, nr0_b2, nb3_r0, nr0_b3, nb3_b2, nb2_b3, List.length_map, exV, exL, w1, w2, w3, w4, w5, upd_app, RR, seval]; done)) trivial ?_ ?_
  · intro n42x H42x hbd
    simp only [hbd, PR.bind_bad] at hres
    subst hres
    simp only [thenQ_pan, blockQ_pan, bodyQ_pan, rpost]
  intro a42 m42 M13 ho42 hn42x hk42x
  simp only [ho42, PR.bind_ok] at hres
  have gb2 := hk42x b2 _ (by first | exact nb2_r0 | exact blk_ne hb2 hr0 (by decide) | (intro e; subst e; simp_all)) (by first | exact hb2 | exact upd_same _ _ _ | (simp only [f0, f2, f3, hb2, hb3, hr0, nb2_r0, nr0_b2, nb3_r0, nr0_b3, nb3_b2, nb2_b3, List.length_map, exV, exL, w1, w2, w3, w4, w5, upd_app, RR, seval]; rfl))
  have gb3 := hk42x b3 _ (by first | exact nb3_r0 | exact blk_ne hb3 hr0 (by decide) | (intro e; subst e; simp_all)) (by first | exact hb3 | exact upd_same _ _ _ | (simp only [f0, f2, f3, hb2, hb3, hr0, nb2_r0, nr0_b2, nb3_r0, nr0_b3, nb3_b2, nb2_b3, List.length_map, exV, exL, w1, w2, w3, w4, w5, upd_app, RR, seval]; rfl))
  have hb2 := gb2; clear gb2
  have hb3 := gb3; clear gb3
  have hr0 := hn42x; clear hn42x hk42x
  simp only [f0, hb2, hb3, hr0, nb2_r0, nr0_b2, nb3_r0, nr0_b3, nb3_b2, nb2_b3, List.length_map, exV, exL, w1, w2, w3, w4, w5, RR, seval]
  refine hK _ _ ?_; clear hK K
  refine awp_seq_k fun K hK => ?_
  refine awp_region rfl ?_
  simp only [f2, f3, hb2, hb3, hr0, nb2_r0, nr0_b2, nb3_r0, nr0_b3, nb3_b2, nb2_b3, List.length_map, exV, exL, w1, w2, w3, w4, w5, RR, seval]
  refine hK _ _ ?_; clear hK K
  refine awp_ret ?_; simp only [bodyQ, aresult, ares, f0, f2, f3, hb2, hb3, hr0, nb2_r0, nr0_b2, nb3_r0, nr0_b3, nb3_b2, nb2_b3, List.length_map, exV, exL, w1, w2, w3, w4, w5, RR, seval]
  refine rgives (by first | exact hr0 | (simp only [f0, f2, f3, hb2, hb3, hr0, nb2_r0, nr0_b2, nb3_r0, nr0_b3, nb3_b2, nb2_b3, List.length_map, exV, exL, w1, w2, w3, w4, w5, upd_app, RR, seval]; done)) hres.symm ?_
  exact hsub
end Go.Proofs.YtlpeikljipknoaaDoor

namespace Go.Proofs.YtlpeikljipknoaaDoor
open Go.Al
def stmtC (r0 : Nat) (T : List Tok) (e n : Nat) : Prop := RCon 104 [] r0 T n e smV (stmtP T n)
def bodyC (r0 : Nat) (T : List Tok) (e n : Nat) : Prop := RCon 112 [] r0 T n e smL (bodyP T n)
def stmtsC (r0 : Nat) (T : List Tok) (e n : Nat) : Prop := RCon 83 [] r0 T n e smL (stmtsP T [] n)
theorem stmts_step (r0 : Nat) {T : List Tok} (hT : Sz T) (n e : Nat) (hn : n ≤ T.length) (ih : ∀ m, n ≤ m → m ≤ T.length → stmtC r0 T e m) : stmtsC r0 T e n := by
  unfold stmtsC RCon
  generalize hres : stmtsP T [] n = res
  generalize hH0 : rdH r0 T n e = H0
  have hr0 : H0 r0 = some (.rows 3 [[.isl 4 (T.map Tok.row), .int .i64 (n : Nat), .int .i64 (e : Nat)]]) := by rw [← hH0]; exact rdH_at _ _ _ _
  clear hH0
  have hlen := hT.len
  refine con_of 13 [.tmp 2] Tryd.func83 rfl rfl rfl rfl ?_
  refine awp_seq_k fun K hK => ?_
  refine awp_region rfl ?_
  simp only [List.length_map, smV, RR, seval]
  refine hK _ _ ?_; clear hK K
  refine awp_seq_k fun K hK => ?_
  refine awp_region rfl ?_
  simp only [List.length_map, smV, RR, seval]
  refine hK _ _ ?_; clear hK K
  refine awp_seq ?_
  refine awp_name fun F1 M1 hfr hH => ?_
  have g0 := hfr 0
  have g2 := hfr 2
  have g3 := hfr 3
  have gr0 := hH r0
  try simp only [hr0, List.length_map, smV, RR, seval] at g0 g2 g3 gr0
  have f0 := g0; clear g0
  have f2 := g2; clear g2
  have f3 := g3; clear g3
  have hr0 := gr0; clear gr0
  clear hfr hH
  refine awp_block ?_
  refine awp_while [0, 2] (T.length - n) (fun k fr M => (∃ (m : Nat) (acc : List Sm), k = T.length - m ∧ n ≤ m ∧ m ≤ T.length ∧ acc.length ≤ m ∧ stmtsP T acc m = res ∧ OwnL 5 (fr 3) (acc.map Sm.row) M ∧ M r0 = some (.rows 3 [[.isl 4 (T.map Tok.row), .int .i64 (m : Nat), .int .i64 (e : Nat)]]))) ⟨n, [], rfl, Nat.le_refl _, hn, Nat.zero_le _, hres, .inl ⟨f3, rfl⟩, hr0⟩ ?_
  rintro k F2 M2 ⟨m, acc, rfl, hnm, hm, hal, hres, hown, hr0⟩ agx K0 hK0
  have f0 := (agx 0 rfl).trans f0
  have f2 := (agx 2 rfl).trans f2
  have ag0 := agree.refl [0, 2] F2
  clear agx
  obtain ⟨v3, f3⟩ : ∃ v, F2 3 = v := ⟨_, rfl⟩
  rw [f3] at hown
  refine awp_seq ?_
  refine awp_seq_k fun K hK => ?_
  refine awp_region rfl ?_
  simp only [f0, hr0, List.length_map, smV, RR, seval]
  refine awpC_rdo (may_con r0 hT m e hm [125] (by decide)) (by first | exact hr0 | (simp only [f0, f2, f3, hr0, List.length_map, smV, upd_app, RR, seval]; done)) trivial fun M3 hn5x hk5x => ?_
  have hown := OwnL.kp hown hr0 (by decide) hk5x
  have hr0 := hn5x; clear hn5x hk5x
  simp only [f0, hr0, List.length_map, smV, RR, seval]
  refine hK _ _ ?_; clear hK K
  refine awp_if _ rfl (fun hc => ?_) (fun hc => ?_)
  · have hw0 := hc; clear hc
    simp only [Bool.not_eq_true', decide_eq_false_iff_not] at hw0
    rw [stmtsP_eq, if_neg hw0] at hres
    rw [if_neg hw0] at hr0
    refine awp_skip ?_; try simp only [RR]
    refine awp_block ?_
    refine awp_region rfl ?_
    simp only [f0, f3, hr0, List.length_map, smV, RR, seval]
    refine awpC_rd (ih m hnm hm) (by first | exact hr0 | (simp only [f0, f2, f3, hr0, List.length_map, smV, upd_app, RR, seval]; done)) trivial ?_ ?_
    · intro n9x H9x hbd
      simp only [hbd, PR.bind_bad] at hres
      subst hres
      simp only [thenQ_pan, blockQ_pan, bodyQ_pan, rpost]
    intro a9 m9 M4 ho9 hn9x hk9x
    simp only [ho9, PR.bind_ok] at hres
    have hown := OwnL.kp hown hr0 (by decide) hk9x
    have hr0 := hn9x; clear hn9x hk9x
    simp only [f0, f3, hr0, List.length_map, smV, RR, seval]
    refine awpB_sealed ?_
    simp only [f0, f3, hr0, List.length_map, smV, RR, seval]
    refine awpA_own hown (by simp only [List.length_map, List.length_cons, List.length_nil]; omega) (fun _ => trivial) fun v3 M5 hown' hk' => ?_
    simp only [f0, f3, hr0, List.length_map, smV, RR, seval]
    have gr0 := hk' r0 _ hr0 (by first | exact (hown).nb' hr0 (by decide) | exact ho0 _ _ | assumption | (intro e; simp_all))
    have hr0 := gr0; clear gr0
    have hm9 := stmtP_far ho9
    try rw [IntWalk.i64_in _ (by omega)]
    refine hK0 (T.length - m9) _ _ (by omega) ⟨m9, acc ++ [a9], rfl, by omega, by omega, by simp only [List.length_append, List.length_cons, List.length_nil]; omega, hres, by rw [smL_snoc]; exact hown', by first | exact hr0 | (simp only [f0, f2, f3, hr0, List.length_map, smV, upd_app, RR, seval]; done)⟩ (by repeat (first | exact ag0 | refine agree.upd rfl ?_))
  · have hw0 := hc; clear hc
    simp only [Bool.not_eq_false', decide_eq_true_eq] at hw0
    rw [stmtsP_eq, if_pos hw0] at hres
    rw [if_pos hw0] at hr0
    refine awp_exit ?_; simp only [RR, seval]
    refine awp_seq_k fun K hK => ?_
    refine awp_region rfl ?_
    simp only [f3, List.length_map, smV, RR, seval]
    refine hK _ _ ?_; clear hK K
    refine awp_ret ?_; simp only [bodyQ, aresult, ares, f2, List.length_map, smV, RR, seval]
    refine rgivesL (a := acc) hown (.inl (by decide)) (by first | exact hr0 | (simp only [f0, f2, f3, hr0, List.length_map, smV, upd_app, RR, seval]; done)) hres.symm ?_
    exact Sub.refl _
theorem body_step (r0 : Nat) {T : List Tok} (hT : Sz T) (n e : Nat) (hn : n ≤ T.length) (ih : ∀ m, n < m → m ≤ T.length → stmtsC r0 T e m) : bodyC r0 T e n := by
  unfold bodyC RCon
  generalize hres : bodyP T n = res
  rw [bodyP_eq] at hres
  generalize hH0 : rdH r0 T n e = H0
  have hr0 : H0 r0 = some (.rows 3 [[.isl 4 (T.map Tok.row), .int .i64 (n : Nat), .int .i64 (e : Nat)]]) := by rw [← hH0]; exact rdH_at _ _ _ _
  clear hH0
  have hlen := hT.len
  refine con_of 8 [.tmp 2] Tryd.func112 rfl rfl rfl rfl ?_
  refine awp_seq_k fun K hK => ?_
  refine awp_region rfl ?_
  simp only [List.length_map, RR, seval]
  refine hK _ _ ?_; clear hK K
  refine awp_seq_k fun K hK => ?_
  refine awp_region rfl ?_
  simp only [hr0, List.length_map, RR, seval]
  refine awpB_sealed ?_
  simp only [hr0, List.length_map, RR, seval]
  refine awpC_rd (must_con r0 hT n e hn [123] (by decide)) (by first | exact hr0 | (simp only [hr0, List.length_map, upd_app, RR, seval]; done)) trivial ?_ ?_
  · intro n5x H5x hbd
    simp only [hbd, PR.bind_bad] at hres
    subst hres
    simp only [thenQ_pan, blockQ_pan, bodyQ_pan, rpost]
  intro a5 m5 M1 ho5 hn5x hk5x
  simp only [ho5, PR.bind_ok] at hres
  have hr0 := hn5x; clear hn5x hk5x
  simp only [hr0, List.length_map, RR, seval]
  refine hK _ _ ?_; clear hK K
  have hm5 := must_ok ho5 (by decide)
  refine awp_seq_k fun K hK => ?_
  refine awp_region rfl ?_
  simp only [hr0, List.length_map, RR, seval]
  refine awpC_rd (ih m5 (by omega) (by omega)) (by first | exact hr0 | (simp only [hr0, List.length_map, upd_app, RR, seval]; done)) trivial ?_ ?_
  · intro n7x H7x hbd
    rw [hbd] at hres
    subst hres
    simp only [thenQ_pan, blockQ_pan, bodyQ_pan, rpost]
  intro a7 m7 M2 ho7 hn7x hk7x
  rw [ho7] at hres
  have hr0 := hn7x; clear hn7x hk7x
  simp only [hr0, List.length_map, RR, seval]
  refine hK _ _ ?_; clear hK K
  refine awp_ret ?_; simp only [bodyQ, aresult, ares, List.length_map, RR, seval]
  refine rgives (by first | exact hr0 | (simp only [hr0, List.length_map, upd_app, RR, seval]; done)) hres.symm ?_
  exact Sub.refl _
set_option maxHeartbeats 4000000 in
theorem stmt_step (r0 : Nat) {T : List Tok} (hT : Sz T) (n e : Nat) (hn : n ≤ T.length) (ih : ∀ m, n < m → m ≤ T.length → bodyC r0 T e m) : stmtC r0 T e n := by
  unfold stmtC RCon
  generalize hres : stmtP T n = res
  rw [stmtP_eq] at hres
  generalize hH0 : rdH r0 T n e = H0
  have hr0 : H0 r0 = some (.rows 3 [[.isl 4 (T.map Tok.row), .int .i64 (n : Nat), .int .i64 (e : Nat)]]) := by rw [← hH0]; exact rdH_at _ _ _ _
  clear hH0
  have hlen := hT.len
  refine con_of 55 [.cell 2 72] Tryd.func104 rfl rfl rfl rfl ?_
  refine awp_seq_k fun K hK => ?_
  refine awp_region rfl ?_
  simp only [hr0, List.length_map, exL, smL, smV, RR, seval]
  refine awpN_intro fun b2 hn2 => ?_
  have nb2_r0 : b2 ≠ r0 := fun e => by rw [e] at hn2; simp only [hr0, RR, seval, reduceCtorEq] at hn2
  have nr0_b2 : r0 ≠ b2 := fun e => nb2_r0 e.symm
  simp only [hr0, nb2_r0, nr0_b2, List.length_map, exL, smL, smV, RR, seval]
  refine hK _ _ ?_; clear hK K
  refine awp_seq ?_
  refine awp_block ?_
  refine awp_seq_k fun K hK => ?_
  refine awp_region rfl ?_
  simp only [hr0, nb2_r0, nr0_b2, List.length_map, exL, smL, smV, RR, seval]
  refine awpC_rdo (may_con r0 hT n e hn wPut (by decide)) (by first | exact hr0 | (simp only [hr0, nb2_r0, nr0_b2, List.length_map, exL, smL, smV, upd_app, RR, seval]; done)) trivial fun M1 hn8x hk8x => ?_
  have gb2 := hk8x b2 _ (by first | exact nb2_r0 | exact blk_ne hb2 hr0 (by decide) | (intro e; subst e; simp_all)) (by first | exact upd_same _ _ _ | (simp only [hr0, nb2_r0, nr0_b2, List.length_map, exL, smL, smV, upd_app, RR, seval]; rfl))
  have hb2 := gb2; clear gb2
  have hr0 := hn8x; clear hn8x hk8x
  simp only [hr0, hb2, nb2_r0, nr0_b2, List.length_map, exL, smL, smV, RR, seval]
  refine hK _ _ ?_; clear hK K
  refine awp_if _ rfl (fun hc1 => ?_) (fun hc1 => ?_)
  · simp only [decide_eq_true_eq, decide_eq_false_iff_not, Bool.not_eq_true', Bool.not_eq_false', Bool.not_true, Bool.not_false] at hc1
    simp only [if_pos hc1] at hres hr0 ⊢
    refine awp_seq_k fun K hK => ?_
    refine awp_region rfl ?_
    simp only [hr0, hb2, nb2_r0, nr0_b2, List.length_map, exL, smL, smV, RR, seval]
    refine awpC_rd (round_con r0 hT (n + 1) e (by have := peek_lt hc1 (by decide); omega)) (by first | exact hr0 | (simp only [hr0, hb2, nb2_r0, nr0_b2, List.length_map, exL, smL, smV, upd_app, RR, seval]; done)) trivial ?_ ?_
    · intro n10x H10x hbd
      simp only [hbd, PR.bind_bad] at hres
      subst hres
      simp only [thenQ_pan, blockQ_pan, bodyQ_pan, rpost]
    intro a10 m10 M2 ho10 hn10x hk10x
    simp only [ho10, PR.bind_ok] at hres
    have gb2 := hk10x b2 _ (by first | exact nb2_r0 | exact blk_ne hb2 hr0 (by decide) | (intro e; subst e; simp_all)) (by first | exact hb2 | exact upd_same _ _ _ | (simp only [hr0, hb2, nb2_r0, nr0_b2, List.length_map, exL, smL, smV, upd_app, RR, seval]; rfl))
    have hb2 := gb2; clear gb2
    have hr0 := hn10x; clear hn10x hk10x
    simp only [hr0, hb2, nb2_r0, nr0_b2, List.length_map, exL, smL, smV, RR, seval]
    refine awpN_intro fun b3 hn3 => ?_
    have nb3_r0 : b3 ≠ r0 := fun e => by rw [e] at hn3; simp only [hr0, nb2_r0, nr0_b2, RR, seval, reduceCtorEq] at hn3
    have nr0_b3 : r0 ≠ b3 := fun e => nb3_r0 e.symm
    have nb3_b2 : b3 ≠ b2 := fun e => by rw [e] at hn3; simp only [hb2, nb2_r0, nr0_b2, RR, seval, reduceCtorEq] at hn3
    have nb2_b3 : b2 ≠ b3 := fun e => nb3_b2 e.symm
    simp only [hr0, hb2, nb2_r0, nr0_b2, nb3_r0, nr0_b3, nb3_b2, nb2_b3, List.length_map, exL, smL, smV, RR, seval]
    refine hK _ _ ?_; clear hK K
    have hm10 := round_far ho10
    refine awp_seq_k fun K hK => ?_
    refine awp_region rfl ?_
    simp only [hr0, hb2, nb2_r0, nr0_b2, nb3_r0, nr0_b3, nb3_b2, nb2_b3, List.length_map, exL, smL, smV, RR, seval]
    refine awpB_sealed ?_
    simp only [hr0, hb2, nb2_r0, nr0_b2, nb3_r0, nr0_b3, nb3_b2, nb2_b3, List.length_map, exL, smL, smV, RR, seval]
    refine awpC_rd (must_con r0 hT m10 e (by omega) [59] (by decide)) (by first | exact hr0 | (simp only [hr0, hb2, nb2_r0, nr0_b2, nb3_r0, nr0_b3, nb3_b2, nb2_b3, List.length_map, exL, smL, smV, upd_app, RR, seval]; done)) trivial ?_ ?_
    · intro n14x H14x hbd
      simp only [hbd, PR.bind_bad] at hres
      subst hres
      simp only [thenQ_pan, blockQ_pan, bodyQ_pan, rpost]
    intro a14 m14 M3 ho14 hn14x hk14x
    simp only [ho14, PR.bind_ok] at hres
    have gb2 := hk14x b2 _ (by first | exact nb2_r0 | exact blk_ne hb2 hr0 (by decide) | (intro e; subst e; simp_all)) (by first | exact hb2 | exact upd_same _ _ _ | (simp only [hr0, hb2, nb2_r0, nr0_b2, nb3_r0, nr0_b3, nb3_b2, nb2_b3, List.length_map, exL, smL, smV, upd_app, RR, seval]; rfl))
    have gb3 := hk14x b3 _ (by first | exact nb3_r0 | exact blk_ne hb3 hr0 (by decide) | (intro e; subst e; simp_all)) (by first | exact upd_same _ _ _ | (simp only [hr0, hb2, nb2_r0, nr0_b2, nb3_r0, nr0_b3, nb3_b2, nb2_b3, List.length_map, exL, smL, smV, upd_app, RR, seval]; rfl))
    have hb2 := gb2; clear gb2
    have hb3 := gb3; clear gb3
    have hr0 := hn14x; clear hn14x hk14x
    simp only [hr0, hb2, hb3, nb2_r0, nr0_b2, nb3_r0, nr0_b3, nb3_b2, nb2_b3, List.length_map, exL, smL, smV, RR, seval]
    refine hK _ _ ?_; clear hK K
    refine awp_seq_k fun K hK => ?_
    refine awp_region rfl ?_
    simp only [hr0, hb2, hb3, nb2_r0, nr0_b2, nb3_r0, nr0_b3, nb3_b2, nb2_b3, List.length_map, exL, smL, smV, RR, seval]
    refine hK _ _ ?_; clear hK K
    refine awp_ret ?_; simp only [bodyQ, aresult, ares, hr0, hb2, hb3, nb2_r0, nr0_b2, nb3_r0, nr0_b3, nb3_b2, nb2_b3, List.length_map, exL, smL, smV, RR, seval]
    refine rgives (by first | exact hr0 | (simp only [hr0, hb2, hb3, nb2_r0, nr0_b2, nb3_r0, nr0_b3, nb3_b2, nb2_b3, List.length_map, exL, smL, smV, upd_app, RR, seval]; done)) hres.symm ?_
    simp only [smV, Sm.kind, Sm.name, Sm.es, Sm.thn, Sm.els, List.map_cons, List.map_nil, Ex.row_eq]
    exact Sub.aggR (by repeat' (first | exact SubR.nil | exact SubRs.nil | exact Sub.refl _ | exact Sub.nsl _ | refine SubR.cons ?_ ?_ | refine SubRs.cons ?_ ?_ | refine Sub.isl ?_ | refine Sub.aggR ?_))
  · simp only [decide_eq_true_eq, decide_eq_false_iff_not, Bool.not_eq_true', Bool.not_eq_false', Bool.not_true, Bool.not_false] at hc1
    simp only [if_neg hc1] at hres hr0 ⊢
    refine awp_seq_k fun K hK => ?_
    refine awp_region rfl ?_
    simp only [hr0, hb2, nb2_r0, nr0_b2, List.length_map, exL, smL, smV, RR, seval]
    refine awpC_rdo (may_con r0 hT n e hn wReturn (by decide)) (by first | exact hr0 | (simp only [hr0, hb2, nb2_r0, nr0_b2, List.length_map, exL, smL, smV, upd_app, RR, seval]; done)) trivial fun M4 hn18x hk18x => ?_
    have gb2 := hk18x b2 _ (by first | exact nb2_r0 | exact blk_ne hb2 hr0 (by decide) | (intro e; subst e; simp_all)) (by first | exact hb2 | exact upd_same _ _ _ | (simp only [hr0, hb2, nb2_r0, nr0_b2, List.length_map, exL, smL, smV, upd_app, RR, seval]; rfl))
    have hb2 := gb2; clear gb2
    have hr0 := hn18x; clear hn18x hk18x
    simp only [hr0, hb2, nb2_r0, nr0_b2, List.length_map, exL, smL, smV, RR, seval]
    refine hK _ _ ?_; clear hK K
    refine awp_if _ rfl (fun hc5 => ?_) (fun hc5 => ?_)
    · simp only [decide_eq_true_eq, decide_eq_false_iff_not, Bool.not_eq_true', Bool.not_eq_false', Bool.not_true, Bool.not_false] at hc5
      simp only [if_pos hc5] at hres hr0 ⊢
      have hn1 : n + 1 ≤ T.length := by have := peek_lt hc5 (by decide); omega
      refine awp_seq_k fun K hK => ?_
      refine awp_region rfl ?_
      simp only [hr0, hb2, nb2_r0, nr0_b2, List.length_map, exL, smL, smV, RR, seval]
      refine awpN_intro fun b4 hn4 => ?_
      have nb4_r0 : b4 ≠ r0 := fun e => by rw [e] at hn4; simp only [hr0, nb2_r0, nr0_b2, RR, seval, reduceCtorEq] at hn4
      have nr0_b4 : r0 ≠ b4 := fun e => nb4_r0 e.symm
      have nb4_b2 : b4 ≠ b2 := fun e => by rw [e] at hn4; simp only [hb2, nb2_r0, nr0_b2, RR, seval, reduceCtorEq] at hn4
      have nb2_b4 : b2 ≠ b4 := fun e => nb4_b2 e.symm
      simp only [hr0, hb2, nb2_r0, nr0_b2, nb4_r0, nr0_b4, nb4_b2, nb2_b4, List.length_map, exL, smL, smV, RR, seval]
      refine hK _ _ ?_; clear hK K
      refine awp_seq ?_
      refine awp_seq_k fun K hK => ?_
      refine awp_region rfl ?_
      simp only [hr0, hb2, nb2_r0, nr0_b2, nb4_r0, nr0_b4, nb4_b2, nb2_b4, List.length_map, exL, smL, smV, RR, seval]
      refine awpC_rdo (may_con r0 hT (n + 1) e hn1 [59] (by decide)) (by first | exact hr0 | (simp only [hr0, hb2, nb2_r0, nr0_b2, nb4_r0, nr0_b4, nb4_b2, nb2_b4, List.length_map, exL, smL, smV, upd_app, RR, seval]; done)) trivial fun M5 hn21x hk21x => ?_
      have gb2 := hk21x b2 _ (by first | exact nb2_r0 | exact blk_ne hb2 hr0 (by decide) | (intro e; subst e; simp_all)) (by first | exact hb2 | exact upd_same _ _ _ | (simp only [hr0, hb2, nb2_r0, nr0_b2, nb4_r0, nr0_b4, nb4_b2, nb2_b4, List.length_map, exL, smL, smV, upd_app, RR, seval]; rfl))
      have gb4 := hk21x b4 _ (by first | exact nb4_r0 | exact blk_ne hb4 hr0 (by decide) | (intro e; subst e; simp_all)) (by first | exact upd_same _ _ _ | (simp only [hr0, hb2, nb2_r0, nr0_b2, nb4_r0, nr0_b4, nb4_b2, nb2_b4, List.length_map, exL, smL, smV, upd_app, RR, seval]; rfl))
      have hb2 := gb2; clear gb2
      have hb4 := gb4; clear gb4
      have hr0 := hn21x; clear hn21x hk21x
      simp only [hr0, hb2, hb4, nb2_r0, nr0_b2, nb4_r0, nr0_b4, nb4_b2, nb2_b4, List.length_map, exL, smL, smV, RR, seval]
      refine hK _ _ ?_; clear hK K
      refine awp_if _ rfl (fun hc7 => ?_) (fun hc7 => ?_)
      · simp only [decide_eq_true_eq, decide_eq_false_iff_not, Bool.not_eq_true', Bool.not_eq_false', Bool.not_true, Bool.not_false] at hc7
        simp only [if_neg hc7] at hres hr0 ⊢
        refine awp_seq_k fun K hK => ?_
        refine awp_region rfl ?_
        simp only [hr0, hb2, hb4, nb2_r0, nr0_b2, nb4_r0, nr0_b4, nb4_b2, nb2_b4, List.length_map, exL, smL, smV, RR, seval]
        refine awpC_rd (expr_con r0 hT (n + 1) e hn1) (by first | exact hr0 | (simp only [hr0, hb2, hb4, nb2_r0, nr0_b2, nb4_r0, nr0_b4, nb4_b2, nb2_b4, List.length_map, exL, smL, smV, upd_app, RR, seval]; done)) trivial ?_ ?_
        · intro n24x H24x hbd
          simp only [hbd, PR.bind_bad] at hres
          subst hres
          simp only [thenQ_pan, blockQ_pan, bodyQ_pan, rpost]
        intro a24 m24 M6 ho24 hn24x hk24x
        simp only [ho24, PR.bind_ok] at hres
        have gb2 := hk24x b2 _ (by first | exact nb2_r0 | exact blk_ne hb2 hr0 (by decide) | (intro e; subst e; simp_all)) (by first | exact hb2 | exact upd_same _ _ _ | (simp only [hr0, hb2, hb4, nb2_r0, nr0_b2, nb4_r0, nr0_b4, nb4_b2, nb2_b4, List.length_map, exL, smL, smV, upd_app, RR, seval]; rfl))
        have gb4 := hk24x b4 _ (by first | exact nb4_r0 | exact blk_ne hb4 hr0 (by decide) | (intro e; subst e; simp_all)) (by first | exact hb4 | exact upd_same _ _ _ | (simp only [hr0, hb2, hb4, nb2_r0, nr0_b2, nb4_r0, nr0_b4, nb4_b2, nb2_b4, List.length_map, exL, smL, smV, upd_app, RR, seval]; rfl))
        have hb2 := gb2; clear gb2
        have hb4 := gb4; clear gb4
        have hr0 := hn24x; clear hn24x hk24x
        simp only [hr0, hb2, hb4, nb2_r0, nr0_b2, nb4_r0, nr0_b4, nb4_b2, nb2_b4, List.length_map, exL, smL, smV, RR, seval]
        refine awpB_sealed ?_
        simp only [hr0, hb2, hb4, nb2_r0, nr0_b2, nb4_r0, nr0_b4, nb4_b2, nb2_b4, List.length_map, exL, smL, smV, RR, seval]
        refine hK _ _ ?_; clear hK K
        have hm24 := exprP_far ho24
        refine awp_region rfl ?_
        simp only [hr0, hb2, hb4, nb2_r0, nr0_b2, nb4_r0, nr0_b4, nb4_b2, nb2_b4, List.length_map, exL, smL, smV, RR, seval]
        refine awpB_sealed ?_
        simp only [hr0, hb2, hb4, nb2_r0, nr0_b2, nb4_r0, nr0_b4, nb4_b2, nb2_b4, List.length_map, exL, smL, smV, RR, seval]
        refine awpC_rd (must_con r0 hT m24 e (by omega) [59] (by decide)) (by first | exact hr0 | (simp only [hr0, hb2, hb4, nb2_r0, nr0_b2, nb4_r0, nr0_b4, nb4_b2, nb2_b4, List.length_map, exL, smL, smV, upd_app, RR, seval]; done)) trivial ?_ ?_
        · intro n29x H29x hbd
          simp only [hbd, PR.bind_bad] at hres
          subst hres
          simp only [thenQ_pan, blockQ_pan, bodyQ_pan, rpost]
        intro a29 m29 M7 ho29 hn29x hk29x
        simp only [ho29, PR.bind_ok] at hres
        have gb2 := hk29x b2 _ (by first | exact nb2_r0 | exact blk_ne hb2 hr0 (by decide) | (intro e; subst e; simp_all)) (by first | exact hb2 | exact upd_same _ _ _ | (simp only [hr0, hb2, hb4, nb2_r0, nr0_b2, nb4_r0, nr0_b4, nb4_b2, nb2_b4, List.length_map, exL, smL, smV, upd_app, RR, seval]; rfl))
        have gb4 := hk29x b4 _ (by first | exact nb4_r0 | exact blk_ne hb4 hr0 (by decide) | (intro e; subst e; simp_all)) (by first | exact hb4 | exact upd_same _ _ _ | (simp only [hr0, hb2, hb4, nb2_r0, nr0_b2, nb4_r0, nr0_b4, nb4_b2, nb2_b4, List.length_map, exL, smL, smV, upd_app, RR, seval]; rfl))
        have hb2 := gb2; clear gb2
        have hb4 := gb4; clear gb4
        have hr0 := hn29x; clear hn29x hk29x
        simp only [hr0, hb2, hb4, nb2_r0, nr0_b2, nb4_r0, nr0_b4, nb4_b2, nb2_b4, List.length_map, exL, smL, smV, RR, seval]
        refine awp_seq_k fun K hK => ?_
        refine awp_region rfl ?_
        simp only [hr0, hb2, hb4, nb2_r0, nr0_b2, nb4_r0, nr0_b4, nb4_b2, nb2_b4, List.length_map, exL, smL, smV, RR, seval]
        refine hK _ _ ?_; clear hK K
        refine awp_ret ?_; simp only [bodyQ, aresult, ares, hr0, hb2, hb4, nb2_r0, nr0_b2, nb4_r0, nr0_b4, nb4_b2, nb2_b4, List.length_map, exL, smL, smV, RR, seval]
        refine rgives (by first | exact hr0 | (simp only [hr0, hb2, hb4, nb2_r0, nr0_b2, nb4_r0, nr0_b4, nb4_b2, nb2_b4, List.length_map, exL, smL, smV, upd_app, RR, seval]; done)) hres.symm ?_
        simp only [smV, Sm.kind, Sm.name, Sm.es, Sm.thn, Sm.els, List.map_cons, List.map_nil, Ex.row_eq]
        exact Sub.aggR (by repeat' (first | exact SubR.nil | exact SubRs.nil | exact Sub.refl _ | exact Sub.nsl _ | refine SubR.cons ?_ ?_ | refine SubRs.cons ?_ ?_ | refine Sub.isl ?_ | refine Sub.aggR ?_))
      · simp only [decide_eq_true_eq, decide_eq_false_iff_not, Bool.not_eq_true', Bool.not_eq_false', Bool.not_true, Bool.not_false] at hc7
        simp only [if_pos hc7] at hres hr0 ⊢
        refine awp_skip ?_; try simp only [RR]
        refine awp_seq_k fun K hK => ?_
        refine awp_region rfl ?_
        simp only [hr0, hb2, hb4, nb2_r0, nr0_b2, nb4_r0, nr0_b4, nb4_b2, nb2_b4, List.length_map, exL, smL, smV, RR, seval]
        refine hK _ _ ?_; clear hK K
        refine awp_ret ?_; simp only [bodyQ, aresult, ares, hr0, hb2, hb4, nb2_r0, nr0_b2, nb4_r0, nr0_b4, nb4_b2, nb2_b4, List.length_map, exL, smL, smV, RR, seval]
        refine rgives (by first | exact hr0 | (simp only [hr0, hb2, hb4, nb2_r0, nr0_b2, nb4_r0, nr0_b4, nb4_b2, nb2_b4, List.length_map, exL, smL, smV, upd_app, RR, seval]; done)) hres.symm ?_
        simp only [smV, Sm.kind, Sm.name, Sm.es, Sm.thn, Sm.els, List.map_cons, List.map_nil, Ex.row_eq]
        exact Sub.aggR (by repeat' (first | exact SubR.nil | exact SubRs.nil | exact Sub.refl _ | exact Sub.nsl _ | refine SubR.cons ?_ ?_ | refine SubRs.cons ?_ ?_ | refine Sub.isl ?_ | refine Sub.aggR ?_))
    · simp only [decide_eq_true_eq, decide_eq_false_iff_not, Bool.not_eq_true', Bool.not_eq_false', Bool.not_true, Bool.not_false] at hc5
      simp only [if_neg hc5] at hres hr0 ⊢
      refine awp_seq_k fun K hK => ?_
      refine awp_region rfl ?_
      simp only [hr0, hb2, nb2_r0, nr0_b2, List.length_map, exL, smL, smV, RR, seval]
      refine awpC_rdo (may_con r0 hT n e hn wIf (by decide)) (by first | exact hr0 | (simp only [hr0, hb2, nb2_r0, nr0_b2, List.length_map, exL, smL, smV, upd_app, RR, seval]; done)) trivial fun M8 hn33x hk33x => ?_
      have gb2 := hk33x b2 _ (by first | exact nb2_r0 | exact blk_ne hb2 hr0 (by decide) | (intro e; subst e; simp_all)) (by first | exact hb2 | exact upd_same _ _ _ | (simp only [hr0, hb2, nb2_r0, nr0_b2, List.length_map, exL, smL, smV, upd_app, RR, seval]; rfl))
      have hb2 := gb2; clear gb2
      have hr0 := hn33x; clear hn33x hk33x
      simp only [hr0, hb2, nb2_r0, nr0_b2, List.length_map, exL, smL, smV, RR, seval]
      refine hK _ _ ?_; clear hK K
      refine awp_if _ rfl (fun hc11 => ?_) (fun hc11 => ?_)
      · simp only [decide_eq_true_eq, decide_eq_false_iff_not, Bool.not_eq_true', Bool.not_eq_false', Bool.not_true, Bool.not_false] at hc11
        simp only [if_pos hc11] at hres hr0 ⊢
        refine awp_seq_k fun K hK => ?_
        refine awp_region rfl ?_
        simp only [hr0, hb2, nb2_r0, nr0_b2, List.length_map, exL, smL, smV, RR, seval]
        refine awpC_rd (round_con r0 hT (n + 1) e (by have := peek_lt hc11 (by decide); omega)) (by first | exact hr0 | (simp only [hr0, hb2, nb2_r0, nr0_b2, List.length_map, exL, smL, smV, upd_app, RR, seval]; done)) trivial ?_ ?_
        · intro n35x H35x hbd
          simp only [hbd, PR.bind_bad] at hres
          subst hres
          simp only [thenQ_pan, blockQ_pan, bodyQ_pan, rpost]
        intro a35 m35 M9 ho35 hn35x hk35x
        simp only [ho35, PR.bind_ok] at hres
        have gb2 := hk35x b2 _ (by first | exact nb2_r0 | exact blk_ne hb2 hr0 (by decide) | (intro e; subst e; simp_all)) (by first | exact hb2 | exact upd_same _ _ _ | (simp only [hr0, hb2, nb2_r0, nr0_b2, List.length_map, exL, smL, smV, upd_app, RR, seval]; rfl))
        have hb2 := gb2; clear gb2
        have hr0 := hn35x; clear hn35x hk35x
        simp only [hr0, hb2, nb2_r0, nr0_b2, List.length_map, exL, smL, smV, RR, seval]
        refine awpC_rd (ih m35 (by have := round_far ho35; omega) (by have := round_far ho35; omega)) (by first | exact hr0 | (simp only [hr0, hb2, nb2_r0, nr0_b2, List.length_map, exL, smL, smV, upd_app, RR, seval]; done)) trivial ?_ ?_
        · intro n37x H37x hbd
          simp only [hbd, PR.bind_bad] at hres
          subst hres
          simp only [thenQ_pan, blockQ_pan, bodyQ_pan, rpost]
        intro a37 m37 M10 ho37 hn37x hk37x
        simp only [ho37, PR.bind_ok] at hres
        have gb2 := hk37x b2 _ (by first | exact nb2_r0 | exact blk_ne hb2 hr0 (by decide) | (intro e; subst e; simp_all)) (by first | exact hb2 | exact upd_same _ _ _ | (simp only [hr0, hb2, nb2_r0, nr0_b2, List.length_map, exL, smL, smV, upd_app, RR, seval]; rfl))
        have hb2 := gb2; clear gb2
        have hr0 := hn37x; clear hn37x hk37x
        simp only [hr0, hb2, nb2_r0, nr0_b2, List.length_map, exL, smL, smV, RR, seval]
        refine awpN_intro fun b5 hn5 => ?_
        have nb5_r0 : b5 ≠ r0 := fun e => by rw [e] at hn5; simp only [hr0, nb2_r0, nr0_b2, RR, seval, reduceCtorEq] at hn5
        have nr0_b5 : r0 ≠ b5 := fun e => nb5_r0 e.symm
        have nb5_b2 : b5 ≠ b2 := fun e => by rw [e] at hn5; simp only [hb2, nb2_r0, nr0_b2, RR, seval, reduceCtorEq] at hn5
        have nb2_b5 : b2 ≠ b5 := fun e => nb5_b2 e.symm
        simp only [hr0, hb2, nb2_r0, nr0_b2, nb5_r0, nr0_b5, nb5_b2, nb2_b5, List.length_map, exL, smL, smV, RR, seval]
        refine hK _ _ ?_; clear hK K
        have hm37 := bodyP_far ho37
        have hm35 := round_far ho35
        refine awp_seq ?_
        refine awp_seq_k fun K hK => ?_
        refine awp_region rfl ?_
        simp only [hr0, hb2, nb2_r0, nr0_b2, nb5_r0, nr0_b5, nb5_b2, nb2_b5, List.length_map, exL, smL, smV, RR, seval]
        refine awpC_rdo (may_con r0 hT m37 e (by omega) wElse (by decide)) (by first | exact hr0 | (simp only [hr0, hb2, nb2_r0, nr0_b2, nb5_r0, nr0_b5, nb5_b2, nb2_b5, List.length_map, exL, smL, smV, upd_app, RR, seval]; done)) trivial fun M11 hn40x hk40x => ?_
        have gb2 := hk40x b2 _ (by first | exact nb2_r0 | exact blk_ne hb2 hr0 (by decide) | (intro e; subst e; simp_all)) (by first | exact hb2 | exact upd_same _ _ _ | (simp only [hr0, hb2, nb2_r0, nr0_b2, nb5_r0, nr0_b5, nb5_b2, nb2_b5, List.length_map, exL, smL, smV, upd_app, RR, seval]; rfl))
        have gb5 := hk40x b5 _ (by first | exact nb5_r0 | exact blk_ne hb5 hr0 (by decide) | (intro e; subst e; simp_all)) (by first | exact upd_same _ _ _ | (simp only [hr0, hb2, nb2_r0, nr0_b2, nb5_r0, nr0_b5, nb5_b2, nb2_b5, List.length_map, exL, smL, smV, upd_app, RR, seval]; rfl))
        have hb2 := gb2; clear gb2
        have hb5 := gb5; clear gb5
        have hr0 := hn40x; clear hn40x hk40x
        simp only [hr0, hb2, hb5, nb2_r0, nr0_b2, nb5_r0, nr0_b5, nb5_b2, nb2_b5, List.length_map, exL, smL, smV, RR, seval]
        refine hK _ _ ?_; clear hK K
        refine awp_if _ rfl (fun hc13 => ?_) (fun hc13 => ?_)
        · simp only [decide_eq_true_eq, decide_eq_false_iff_not, Bool.not_eq_true', Bool.not_eq_false', Bool.not_true, Bool.not_false] at hc13
          simp only [if_pos hc13] at hres hr0 ⊢
          refine awp_region rfl ?_
          simp only [hr0, hb2, hb5, nb2_r0, nr0_b2, nb5_r0, nr0_b5, nb5_b2, nb2_b5, List.length_map, exL, smL, smV, RR, seval]
          refine awpC_rd (ih (m37 + 1) (by omega) (by have := peek_lt hc13 (by decide); omega)) (by first | exact hr0 | (simp only [hr0, hb2, hb5, nb2_r0, nr0_b2, nb5_r0, nr0_b5, nb5_b2, nb2_b5, List.length_map, exL, smL, smV, upd_app, RR, seval]; done)) trivial ?_ ?_
          · intro n42x H42x hbd
            simp only [hbd, PR.bind_bad] at hres
            subst hres
            simp only [thenQ_pan, blockQ_pan, bodyQ_pan, rpost]
          intro a42 m42 M12 ho42 hn42x hk42x
          simp only [ho42, PR.bind_ok] at hres
          have gb2 := hk42x b2 _ (by first | exact nb2_r0 | exact blk_ne hb2 hr0 (by decide) | (intro e; subst e; simp_all)) (by first | exact hb2 | exact upd_same _ _ _ | (simp only [hr0, hb2, hb5, nb2_r0, nr0_b2, nb5_r0, nr0_b5, nb5_b2, nb2_b5, List.length_map, exL, smL, smV, upd_app, RR, seval]; rfl))
          have gb5 := hk42x b5 _ (by first | exact nb5_r0 | exact blk_ne hb5 hr0 (by decide) | (intro e; subst e; simp_all)) (by first | exact hb5 | exact upd_same _ _ _ | (simp only [hr0, hb2, hb5, nb2_r0, nr0_b2, nb5_r0, nr0_b5, nb5_b2, nb2_b5, List.length_map, exL, smL, smV, upd_app, RR, seval]; rfl))
          have hb2 := gb2; clear gb2
          have hb5 := gb5; clear gb5
          have hr0 := hn42x; clear hn42x hk42x
          simp only [hr0, hb2, hb5, nb2_r0, nr0_b2, nb5_r0, nr0_b5, nb5_b2, nb2_b5, List.length_map, exL, smL, smV, RR, seval]
          refine awp_seq_k fun K hK => ?_
          refine awp_region rfl ?_
          simp only [hr0, hb2, hb5, nb2_r0, nr0_b2, nb5_r0, nr0_b5, nb5_b2, nb2_b5, List.length_map, exL, smL, smV, RR, seval]
          refine hK _ _ ?_; clear hK K
          refine awp_ret ?_; simp only [bodyQ, aresult, ares, hr0, hb2, hb5, nb2_r0, nr0_b2, nb5_r0, nr0_b5, nb5_b2, nb2_b5, List.length_map, exL, smL, smV, RR, seval]
          refine rgives (by first | exact hr0 | (simp only [hr0, hb2, hb5, nb2_r0, nr0_b2, nb5_r0, nr0_b5, nb5_b2, nb2_b5, List.length_map, exL, smL, smV, upd_app, RR, seval]; done)) hres.symm ?_
          simp only [smV, Sm.kind, Sm.name, Sm.es, Sm.thn, Sm.els, List.map_cons, List.map_nil, Ex.row_eq]
          exact Sub.aggR (by repeat' (first | exact SubR.nil | exact SubRs.nil | exact Sub.refl _ | exact Sub.nsl _ | refine SubR.cons ?_ ?_ | refine SubRs.cons ?_ ?_ | refine Sub.isl ?_ | refine Sub.aggR ?_))
        · simp only [decide_eq_true_eq, decide_eq_false_iff_not, Bool.not_eq_true', Bool.not_eq_false', Bool.not_true, Bool.not_false] at hc13
          simp only [if_neg hc13] at hres hr0 ⊢
          refine awp_skip ?_; try simp only [RR]
          refine awp_seq_k fun K hK => ?_
          refine awp_region rfl ?_
          simp only [hr0, hb2, hb5, nb2_r0, nr0_b2, nb5_r0, nr0_b5, nb5_b2, nb2_b5, List.length_map, exL, smL, smV, RR, seval]
          refine hK _ _ ?_; clear hK K
          refine awp_ret ?_; simp only [bodyQ, aresult, ares, hr0, hb2, hb5, nb2_r0, nr0_b2, nb5_r0, nr0_b5, nb5_b2, nb2_b5, List.length_map, exL, smL, smV, RR, seval]
          refine rgives (by first | exact hr0 | (simp only [hr0, hb2, hb5, nb2_r0, nr0_b2, nb5_r0, nr0_b5, nb5_b2, nb2_b5, List.length_map, exL, smL, smV, upd_app, RR, seval]; done)) hres.symm ?_
          simp only [smV, Sm.kind, Sm.name, Sm.es, Sm.thn, Sm.els, List.map_cons, List.map_nil, Ex.row_eq]
          exact Sub.aggR (by repeat' (first | exact SubR.nil | exact SubRs.nil | exact Sub.refl _ | exact Sub.nsl _ | refine SubR.cons ?_ ?_ | refine SubRs.cons ?_ ?_ | refine Sub.isl ?_ | refine Sub.aggR ?_))
      · simp only [decide_eq_true_eq, decide_eq_false_iff_not, Bool.not_eq_true', Bool.not_eq_false', Bool.not_true, Bool.not_false] at hc11
        simp only [if_neg hc11] at hres hr0 ⊢
        refine awp_seq_k fun K hK => ?_
        refine awp_region rfl ?_
        simp only [hr0, hb2, nb2_r0, nr0_b2, List.length_map, exL, smL, smV, RR, seval]
        refine awpC_rdo (may_con r0 hT n e hn wWhile (by decide)) (by first | exact hr0 | (simp only [hr0, hb2, nb2_r0, nr0_b2, List.length_map, exL, smL, smV, upd_app, RR, seval]; done)) trivial fun M13 hn47x hk47x => ?_
        have gb2 := hk47x b2 _ (by first | exact nb2_r0 | exact blk_ne hb2 hr0 (by decide) | (intro e; subst e; simp_all)) (by first | exact hb2 | exact upd_same _ _ _ | (simp only [hr0, hb2, nb2_r0, nr0_b2, List.length_map, exL, smL, smV, upd_app, RR, seval]; rfl))
        have hb2 := gb2; clear gb2
        have hr0 := hn47x; clear hn47x hk47x
        simp only [hr0, hb2, nb2_r0, nr0_b2, List.length_map, exL, smL, smV, RR, seval]
        refine hK _ _ ?_; clear hK K
        refine awp_if _ rfl (fun hc16 => ?_) (fun hc16 => ?_)
        · simp only [decide_eq_true_eq, decide_eq_false_iff_not, Bool.not_eq_true', Bool.not_eq_false', Bool.not_true, Bool.not_false] at hc16
          simp only [if_pos hc16] at hres hr0 ⊢
          refine awp_seq_k fun K hK => ?_
          refine awp_region rfl ?_
          simp only [hr0, hb2, nb2_r0, nr0_b2, List.length_map, exL, smL, smV, RR, seval]
          refine awpC_rd (round_con r0 hT (n + 1) e (by have := peek_lt hc16 (by decide); omega)) (by first | exact hr0 | (simp only [hr0, hb2, nb2_r0, nr0_b2, List.length_map, exL, smL, smV, upd_app, RR, seval]; done)) trivial ?_ ?_
          · intro n49x H49x hbd
            simp only [hbd, PR.bind_bad] at hres
            subst hres
            simp only [thenQ_pan, blockQ_pan, bodyQ_pan, rpost]
          intro a49 m49 M14 ho49 hn49x hk49x
          simp only [ho49, PR.bind_ok] at hres
          have gb2 := hk49x b2 _ (by first | exact nb2_r0 | exact blk_ne hb2 hr0 (by decide) | (intro e; subst e; simp_all)) (by first | exact hb2 | exact upd_same _ _ _ | (simp only [hr0, hb2, nb2_r0, nr0_b2, List.length_map, exL, smL, smV, upd_app, RR, seval]; rfl))
          have hb2 := gb2; clear gb2
          have hr0 := hn49x; clear hn49x hk49x
          simp only [hr0, hb2, nb2_r0, nr0_b2, List.length_map, exL, smL, smV, RR, seval]
          refine awpC_rd (ih m49 (by have := round_far ho49; omega) (by have := round_far ho49; omega)) (by first | exact hr0 | (simp only [hr0, hb2, nb2_r0, nr0_b2, List.length_map, exL, smL, smV, upd_app, RR, seval]; done)) trivial ?_ ?_
          · intro n51x H51x hbd
            simp only [hbd, PR.bind_bad] at hres
            subst hres
            simp only [thenQ_pan, blockQ_pan, bodyQ_pan, rpost]
          intro a51 m51 M15 ho51 hn51x hk51x
          simp only [ho51, PR.bind_ok] at hres
          have gb2 := hk51x b2 _ (by first | exact nb2_r0 | exact blk_ne hb2 hr0 (by decide) | (intro e; subst e; simp_all)) (by first | exact hb2 | exact upd_same _ _ _ | (simp only [hr0, hb2, nb2_r0, nr0_b2, List.length_map, exL, smL, smV, upd_app, RR, seval]; rfl))
          have hb2 := gb2; clear gb2
          have hr0 := hn51x; clear hn51x hk51x
          simp only [hr0, hb2, nb2_r0, nr0_b2, List.length_map, exL, smL, smV, RR, seval]
          refine hK _ _ ?_; clear hK K
          refine awp_ret ?_; simp only [bodyQ, aresult, ares, hr0, hb2, nb2_r0, nr0_b2, List.length_map, exL, smL, smV, RR, seval]
          refine rgives (by first | exact hr0 | (simp only [hr0, hb2, nb2_r0, nr0_b2, List.length_map, exL, smL, smV, upd_app, RR, seval]; done)) hres.symm ?_
          simp only [smV, Sm.kind, Sm.name, Sm.es, Sm.thn, Sm.els, List.map_cons, List.map_nil, Ex.row_eq]
          exact Sub.aggR (by repeat' (first | exact SubR.nil | exact SubRs.nil | exact Sub.refl _ | exact Sub.nsl _ | refine SubR.cons ?_ ?_ | refine SubRs.cons ?_ ?_ | refine Sub.isl ?_ | refine Sub.aggR ?_))
        · simp only [decide_eq_true_eq, decide_eq_false_iff_not, Bool.not_eq_true', Bool.not_eq_false', Bool.not_true, Bool.not_false] at hc16
          simp only [if_neg hc16] at hres hr0 ⊢
          refine awp_skip ?_; try simp only [RR]
          refine awp_seq_k fun K hK => ?_
          refine awp_region rfl ?_
          simp only [hr0, hb2, nb2_r0, nr0_b2, List.length_map, exL, smL, smV, RR, seval]
          refine awpC_rd (named_con r0 hT n e hn) (by first | exact hr0 | (simp only [hr0, hb2, nb2_r0, nr0_b2, List.length_map, exL, smL, smV, upd_app, RR, seval]; done)) trivial ?_ ?_
          · intro n54x H54x hbd
            rw [hbd] at hres
            subst hres
            simp only [thenQ_pan, blockQ_pan, bodyQ_pan, rpost]
          intro a54 m54 M16 ho54 hn54x hk54x
          rw [ho54] at hres
          have gb2 := hk54x b2 _ (by first | exact nb2_r0 | exact blk_ne hb2 hr0 (by decide) | (intro e; subst e; simp_all)) (by first | exact hb2 | exact upd_same _ _ _ | (simp only [hr0, hb2, nb2_r0, nr0_b2, List.length_map, exL, smL, smV, upd_app, RR, seval]; rfl))
          have hb2 := gb2; clear gb2
          have hr0 := hn54x; clear hn54x hk54x
          simp only [hr0, hb2, nb2_r0, nr0_b2, List.length_map, exL, smL, smV, RR, seval]
          refine hK _ _ ?_; clear hK K
          refine awp_ret ?_; simp only [bodyQ, aresult, ares, hr0, hb2, nb2_r0, nr0_b2, List.length_map, exL, smL, smV, RR, seval]
          refine rgives (by first | exact hr0 | (simp only [hr0, hb2, nb2_r0, nr0_b2, List.length_map, exL, smL, smV, upd_app, RR, seval]; done)) hres.symm ?_
          simp only [smV, Sm.kind, Sm.name, Sm.es, Sm.thn, Sm.els, List.map_cons, List.map_nil, Ex.row_eq]
          exact Sub.aggR (by repeat' (first | exact SubR.nil | exact SubRs.nil | exact Sub.refl _ | exact Sub.nsl _ | refine SubR.cons ?_ ?_ | refine SubRs.cons ?_ ?_ | refine Sub.isl ?_ | refine Sub.aggR ?_))
theorem stmts_all (r0 : Nat) {T : List Tok} (hT : Sz T) (e : Nat) (k : Nat) : ∀ n, n ≤ T.length → T.length - n ≤ k → stmtC r0 T e n ∧ stmtsC r0 T e n ∧ bodyC r0 T e n := by
  induction k using Nat.strongRecOn with
  | _ k ih =>
    intro n hn hk
    have hs : stmtC r0 T e n := stmt_step r0 hT n e hn fun m h1 h2 => (ih (T.length - m) (by omega) m h2 (Nat.le_refl _)).2.2
    refine ⟨hs, stmts_step r0 hT n e hn fun m h1 h2 => ?_, body_step r0 hT n e hn fun m h1 h2 => (ih (T.length - m) (by omega) m h2 (Nat.le_refl _)).2.1⟩
    by_cases c : m = n
    · subst c; exact hs
    · exact (ih (T.length - m) (by omega) m h2 (Nat.le_refl _)).1
theorem stmts_con (r0 : Nat) {T : List Tok} (hT : Sz T) (n e : Nat) (hn : n ≤ T.length) : RCon 83 [] r0 T n e smL (stmtsP T [] n) := (stmts_all r0 hT e _ n hn (Nat.le_refl _)).2.1
end Go.Proofs.YtlpeikljipknoaaDoor

namespace Go.Proofs.YtlpeikljipknoaaDoor
open Go.Al
def funB (T : List Tok) (nm : Str) (ps : List Str) (w : Bool) (ls : List Str) (c : Nat) : PR Fu := (stmtsP T [] c).bind fun b c => .ok ⟨nm, ps, ls, w, b⟩ c
def funK (T : List Tok) (nm : Str) (ps : List Str) (m : Nat) : PR Fu := (mustI T [41] m).bind fun _ m => (mustI T [123] (if peekI T m = wWord then m + 1 else m)).bind fun _ c => (locP T [] c).bind fun ls c => funB T nm ps (decide (peekI T m = wWord)) ls c
theorem funP_eq (T : List Tok) (n : Nat) : funP T n = (mustI T wFunc n).bind fun _ m => (takeI T 1 m).bind fun t m => (mustI T [40] m).bind fun _ m => (if kindI T m = 1 then namesP T m else .ok [] m : PR (List Str)).bind fun ps m => funK T t.text ps m := rfl
theorem one_strs (l : List Str) : ((l.map strRow).all fun r => r.all one) = true := one_rows (fun _ => rfl) l
theorem nm_len {T : List Tok} (f : Nat) : ∀ acc n l m, nmI T f acc n = .ok l m → l.length + n ≤ acc.length + m := by
  induction f with
  | zero => intro _ _ _ _ h; simp [nmI] at h
  | succ f ih =>
    intro acc n l m h
    rw [nmI] at h
    split at h
    · obtain ⟨s, a, h1, h2⟩ := PR.bind_eq_ok h
      have := take_ok h1
      have := ih _ _ _ _ h2
      simp only [List.length_append, List.length_cons, List.length_nil] at this
      omega
    · cases h; omega
theorem namesP_len {T : List Tok} {n m : Nat} {l : List Str} (h : namesP T n = .ok l m) : l.length + n ≤ m := by
  obtain ⟨t, a, h1, h2⟩ := PR.bind_eq_ok h
  have := take_ok h1
  have := nm_len _ _ _ _ _ h2
  simp only [List.length_cons, List.length_nil] at this
  omega
def fuV (f : Fu) : AV := .agg [.str f.name, .isl 1 (f.params.map strRow), .isl 1 (f.locs.map strRow), .bool f.word, .isl 5 (f.body.map Sm.row)]
set_option maxHeartbeats 4000000 in
theorem fun_con (r0 : Nat) {T : List Tok} (hT : Sz T) (n e : Nat) (hn : n ≤ T.length) : RCon 49 [] r0 T n e fuV (funP T n) := by
  unfold RCon
  generalize hres : funP T n = res
  rw [funP_eq] at hres
  generalize hH0 : rdH r0 T n e = H0
  have hr0 : H0 r0 = some (.rows 3 [[.isl 4 (T.map Tok.row), .int .i64 (n : Nat), .int .i64 (e : Nat)]]) := by rw [← hH0]; exact rdH_at _ _ _ _
  clear hH0
  have hlen := hT.len
  refine con_of 44 [.cell 2 57] Tryd.func49 rfl rfl rfl rfl ?_
  refine awp_seq_k fun K hK => ?_
  refine awp_region rfl ?_
  simp only [hr0, List.length_map, strs, smL, one_strs, RR, seval]
  refine awpN_intro fun b2 hn2 => ?_
  have nb2_r0 : b2 ≠ r0 := fun e => by rw [e] at hn2; simp only [hr0, RR, seval, reduceCtorEq] at hn2
  have nr0_b2 : r0 ≠ b2 := fun e => nb2_r0 e.symm
  simp only [hr0, nb2_r0, nr0_b2, List.length_map, strs, smL, one_strs, RR, seval]
  refine hK _ _ ?_; clear hK K
  refine awp_seq_k fun K hK => ?_
  refine awp_region rfl ?_
  simp only [hr0, nb2_r0, nr0_b2, List.length_map, strs, smL, one_strs, RR, seval]
  refine awpN_intro fun b3 hn3 => ?_
  have nb3_r0 : b3 ≠ r0 := fun e => by rw [e] at hn3; simp only [hr0, nb2_r0, nr0_b2, RR, seval, reduceCtorEq] at hn3
  have nr0_b3 : r0 ≠ b3 := fun e => nb3_r0 e.symm
  have nb3_b2 : b3 ≠ b2 := fun e => by rw [e] at hn3; simp only [nb2_r0, nr0_b2, RR, seval, reduceCtorEq] at hn3
  have nb2_b3 : b2 ≠ b3 := fun e => nb3_b2 e.symm
  simp only [hr0, nb2_r0, nr0_b2, nb3_r0, nr0_b3, nb3_b2, nb2_b3, List.length_map, strs, smL, one_strs, RR, seval]
  refine hK _ _ ?_; clear hK K
  refine awp_seq_k fun K hK => ?_
  refine awp_region rfl ?_
  simp only [hr0, nb2_r0, nr0_b2, nb3_r0, nr0_b3, nb3_b2, nb2_b3, List.length_map, strs, smL, one_strs, RR, seval]
  refine awpB_sealed ?_
  simp only [hr0, nb2_r0, nr0_b2, nb3_r0, nr0_b3, nb3_b2, nb2_b3, List.length_map, strs, smL, one_strs, RR, seval]
  refine awpC_rd (must_con r0 hT n e hn wFunc (by decide)) (by first | exact hr0 | (simp only [hr0, nb2_r0, nr0_b2, nb3_r0, nr0_b3, nb3_b2, nb2_b3, List.length_map, strs, smL, one_strs, upd_app, RR, seval]; done)) trivial ?_ ?_
  · intro n6x H6x hbd
    simp only [hbd, PR.bind_bad] at hres
    subst hres
    simp only [thenQ_pan, blockQ_pan, bodyQ_pan, rpost]
  intro a6 m6 M1 ho6 hn6x hk6x
  simp only [ho6, PR.bind_ok] at hres
  have gb2 := hk6x b2 _ (by first | exact nb2_r0 | exact blk_ne hb2 hr0 (by decide) | (intro e; subst e; simp_all)) (by first | exact upd_same _ _ _ | (simp only [hr0, nb2_r0, nr0_b2, nb3_r0, nr0_b3, nb3_b2, nb2_b3, List.length_map, strs, smL, one_strs, upd_app, RR, seval]; rfl))
  have gb3 := hk6x b3 _ (by first | exact nb3_r0 | exact blk_ne hb3 hr0 (by decide) | (intro e; subst e; simp_all)) (by first | exact upd_same _ _ _ | (simp only [hr0, nb2_r0, nr0_b2, nb3_r0, nr0_b3, nb3_b2, nb2_b3, List.length_map, strs, smL, one_strs, upd_app, RR, seval]; rfl))
  have hb2 := gb2; clear gb2
  have hb3 := gb3; clear gb3
  have hr0 := hn6x; clear hn6x hk6x
  simp only [hr0, hb2, hb3, nb2_r0, nr0_b2, nb3_r0, nr0_b3, nb3_b2, nb2_b3, List.length_map, strs, smL, one_strs, RR, seval]
  refine hK _ _ ?_; clear hK K
  have hm6 := must_ok ho6 (by decide)
  refine awp_seq_k fun K hK => ?_
  refine awp_region rfl ?_
  simp only [hr0, hb2, hb3, nb2_r0, nr0_b2, nb3_r0, nr0_b3, nb3_b2, nb2_b3, List.length_map, strs, smL, one_strs, RR, seval]
  refine awpC_rd (take_con r0 hT m6 e (by omega) 1 (by decide)) (by first | exact hr0 | (simp only [hr0, hb2, hb3, nb2_r0, nr0_b2, nb3_r0, nr0_b3, nb3_b2, nb2_b3, List.length_map, strs, smL, one_strs, upd_app, RR, seval]; done)) trivial ?_ ?_
  · intro n8x H8x hbd
    simp only [hbd, PR.bind_bad] at hres
    subst hres
    simp only [thenQ_pan, blockQ_pan, bodyQ_pan, rpost]
  intro a8 m8 M2 ho8 hn8x hk8x
  simp only [ho8, PR.bind_ok] at hres
  have gb2 := hk8x b2 _ (by first | exact nb2_r0 | exact blk_ne hb2 hr0 (by decide) | (intro e; subst e; simp_all)) (by first | exact hb2 | exact upd_same _ _ _ | (simp only [hr0, hb2, hb3, nb2_r0, nr0_b2, nb3_r0, nr0_b3, nb3_b2, nb2_b3, List.length_map, strs, smL, one_strs, upd_app, RR, seval]; rfl))
  have gb3 := hk8x b3 _ (by first | exact nb3_r0 | exact blk_ne hb3 hr0 (by decide) | (intro e; subst e; simp_all)) (by first | exact hb3 | exact upd_same _ _ _ | (simp only [hr0, hb2, hb3, nb2_r0, nr0_b2, nb3_r0, nr0_b3, nb3_b2, nb2_b3, List.length_map, strs, smL, one_strs, upd_app, RR, seval]; rfl))
  have hb2 := gb2; clear gb2
  have hb3 := gb3; clear gb3
  have hr0 := hn8x; clear hn8x hk8x
  simp only [hr0, hb2, hb3, nb2_r0, nr0_b2, nb3_r0, nr0_b3, nb3_b2, nb2_b3, List.length_map, strs, smL, one_strs, RR, seval]
  refine hK _ _ ?_; clear hK K
  have hm8 := take_ok ho8
  refine awp_seq_k fun K hK => ?_
  refine awp_region rfl ?_
  simp only [hr0, hb2, hb3, nb2_r0, nr0_b2, nb3_r0, nr0_b3, nb3_b2, nb2_b3, List.length_map, strs, smL, one_strs, RR, seval]
  refine awpB_sealed ?_
  simp only [hr0, hb2, hb3, nb2_r0, nr0_b2, nb3_r0, nr0_b3, nb3_b2, nb2_b3, List.length_map, strs, smL, one_strs, RR, seval]
  refine awpC_rd (must_con r0 hT m8 e (by omega) [40] (by decide)) (by first | exact hr0 | (simp only [hr0, hb2, hb3, nb2_r0, nr0_b2, nb3_r0, nr0_b3, nb3_b2, nb2_b3, List.length_map, strs, smL, one_strs, upd_app, RR, seval]; done)) trivial ?_ ?_
  · intro n13x H13x hbd
    simp only [hbd, PR.bind_bad] at hres
    subst hres
    simp only [thenQ_pan, blockQ_pan, bodyQ_pan, rpost]
  intro a13 m13 M3 ho13 hn13x hk13x
  simp only [ho13, PR.bind_ok] at hres
  have gb2 := hk13x b2 _ (by first | exact nb2_r0 | exact blk_ne hb2 hr0 (by decide) | (intro e; subst e; simp_all)) (by first | exact hb2 | exact upd_same _ _ _ | (simp only [hr0, hb2, hb3, nb2_r0, nr0_b2, nb3_r0, nr0_b3, nb3_b2, nb2_b3, List.length_map, strs, smL, one_strs, upd_app, RR, seval]; rfl))
  have gb3 := hk13x b3 _ (by first | exact nb3_r0 | exact blk_ne hb3 hr0 (by decide) | (intro e; subst e; simp_all)) (by first | exact hb3 | exact upd_same _ _ _ | (simp only [hr0, hb2, hb3, nb2_r0, nr0_b2, nb3_r0, nr0_b3, nb3_b2, nb2_b3, List.length_map, strs, smL, one_strs, upd_app, RR, seval]; rfl))
  have hb2 := gb2; clear gb2
  have hb3 := gb3; clear gb3
  have hr0 := hn13x; clear hn13x hk13x
  simp only [hr0, hb2, hb3, nb2_r0, nr0_b2, nb3_r0, nr0_b3, nb3_b2, nb2_b3, List.length_map, strs, smL, one_strs, RR, seval]
  refine hK _ _ ?_; clear hK K
  have hm13 := must_ok ho13 (by decide)
  refine awp_seq ?_
  refine awp_seq_k fun K hK => ?_
  refine awp_region rfl ?_
  simp only [hr0, hb2, hb3, nb2_r0, nr0_b2, nb3_r0, nr0_b3, nb3_b2, nb2_b3, List.length_map, strs, smL, one_strs, RR, seval]
  refine awpC_rdk (kind_con r0 T m13 e (by omega)) (by first | exact hr0 | (simp only [hr0, hb2, hb3, nb2_r0, nr0_b2, nb3_r0, nr0_b3, nb3_b2, nb2_b3, List.length_map, strs, smL, one_strs, upd_app, RR, seval]; done)) trivial ?_
  simp only [hr0, hb2, hb3, nb2_r0, nr0_b2, nb3_r0, nr0_b3, nb3_b2, nb2_b3, List.length_map, strs, smL, one_strs, RR, seval]
  refine hK _ _ ?_; clear hK K
  refine awp_name fun F4 M4 hfr hH => ?_
  have g0 := hfr 0
  have g2 := hfr 2
  have g3 := hfr 3
  have g16 := hfr 16
  have gr0 := hH r0
  have gb2 := hH b2
  have gb3 := hH b3
  try simp only [hr0, hb2, hb3, nb2_r0, nr0_b2, nb3_r0, nr0_b3, nb3_b2, nb2_b3, List.length_map, strs, smL, one_strs, RR, seval] at g0 g2 g3 g16 gr0 gb2 gb3
  have f0 := g0; clear g0
  have f2 := g2; clear g2
  have f3 := g3; clear g3
  have f16 := g16; clear g16
  have hr0 := gr0; clear gr0
  have hb2 := gb2; clear gb2
  have hb3 := gb3; clear gb3
  clear hfr hH
  refine awp_cutP (fun fr M => agree [0, 2, 3] F4 fr ∧ M b2 = M4 b2 ∧ ∃ (ps : List Str) (m : Nat) (v1 : AV), m13 ≤ m ∧ m ≤ T.length ∧ funK T a8.text ps m = res ∧ M b3 = some (.rows 5 [[.str a8.text, v1, .nsl, .bool false, .nsl]]) ∧ one v1 = true ∧ flatV v1 = true ∧ Al.Sub v1 (.isl 1 (ps.map strRow)) ∧ M r0 = some (.rows 3 [[.isl 4 (T.map Tok.row), .int .i64 (m : Nat), .int .i64 (e : Nat)]])) (fun KC5 hKC5 => ?_) ?_
  · have agC5 := agree.refl [0, 2, 3] F4
    have eC5_b2 : M4 b2 = M4 b2 := rfl
    refine awp_if _ (by first | rfl | exact f16) (fun hc5 => ?_) (fun hc5 => ?_)
    · have hk := of_decide_eq_true hc5
      simp only [if_pos hk] at hres
      refine awp_region rfl ?_
      simp only [f0, f3, hr0, hb2, hb3, nb2_r0, nr0_b2, nb3_r0, nr0_b3, nb3_b2, nb2_b3, List.length_map, strs, smL, one_strs, RR, seval]
      refine awpC_rd (names_con r0 hT m13 e (by omega)) (by first | exact hr0 | (simp only [f0, f2, f3, f16, hr0, hb2, hb3, nb2_r0, nr0_b2, nb3_r0, nr0_b3, nb3_b2, nb2_b3, List.length_map, strs, smL, one_strs, upd_app, RR, seval]; done)) trivial ?_ ?_
      · intro n18x H18x hbd
        simp only [hbd, PR.bind_bad] at hres
        subst hres
        simp only [thenQ_pan, blockQ_pan, bodyQ_pan, rpost]
      intro a18 m18 M5 ho18 hn18x hk18x
      simp only [ho18, PR.bind_ok] at hres
      have gb2 := hk18x b2 _ (by first | exact nb2_r0 | exact blk_ne hb2 hr0 (by decide) | (intro e; subst e; simp_all)) (by first | exact hb2 | exact upd_same _ _ _ | (simp only [f0, f2, f3, f16, hr0, hb2, hb3, nb2_r0, nr0_b2, nb3_r0, nr0_b3, nb3_b2, nb2_b3, List.length_map, strs, smL, one_strs, upd_app, RR, seval]; rfl))
      have eC5_b2 := (gb2.trans hb2.symm).trans eC5_b2
      have gb3 := hk18x b3 _ (by first | exact nb3_r0 | exact blk_ne hb3 hr0 (by decide) | (intro e; subst e; simp_all)) (by first | exact hb3 | exact upd_same _ _ _ | (simp only [f0, f2, f3, f16, hr0, hb2, hb3, nb2_r0, nr0_b2, nb3_r0, nr0_b3, nb3_b2, nb2_b3, List.length_map, strs, smL, one_strs, upd_app, RR, seval]; rfl))
      have hb2 := gb2; clear gb2
      have hb3 := gb3; clear gb3
      have hr0 := hn18x; clear hn18x hk18x
      simp only [f0, f3, hr0, hb2, hb3, nb2_r0, nr0_b2, nb3_r0, nr0_b3, nb3_b2, nb2_b3, List.length_map, strs, smL, one_strs, RR, seval]
      have hm18 := namesP_far ho18
      refine hKC5 _ _ ⟨(by repeat (first | exact agC5 | refine agree.upd rfl ?_)), (by first | exact eC5_b2 | (simp only [nb2_r0, nr0_b2, nb3_r0, nr0_b3, nb3_b2, nb2_b3, upd_app, seval]; first | done | exact eC5_b2)), ?_⟩
      first | exact ⟨a18, m18, _, by omega, by omega, hres, by first | exact upd_same _ _ _ | (simp only [f0, f2, f3, f16, hr0, hb2, hb3, nb2_r0, nr0_b2, nb3_r0, nr0_b3, nb3_b2, nb2_b3, List.length_map, strs, smL, one_strs, upd_app, RR, seval]; rfl), rfl, rfl, Sub.refl _, by first | exact hr0 | (simp only [f0, f2, f3, f16, hr0, hb2, hb3, nb2_r0, nr0_b2, nb3_r0, nr0_b3, nb3_b2, nb2_b3, List.length_map, strs, smL, one_strs, upd_app, RR, seval]; done)⟩ | exact ⟨[], m13, _, by omega, by omega, hres, by first | exact hb3 | (simp only [f0, f2, f3, f16, hr0, hb2, hb3, nb2_r0, nr0_b2, nb3_r0, nr0_b3, nb3_b2, nb2_b3, List.length_map, strs, smL, one_strs, upd_app, RR, seval]; rfl), rfl, rfl, Sub.nsl _, by first | exact hr0 | (simp only [f0, f2, f3, f16, hr0, hb2, hb3, nb2_r0, nr0_b2, nb3_r0, nr0_b3, nb3_b2, nb2_b3, List.length_map, strs, smL, one_strs, upd_app, RR, seval]; done)⟩
    · have hk := of_decide_eq_false hc5
      simp only [if_neg hk, PR.bind_ok] at hres
      refine awp_skip ?_; try simp only [RR]
      refine hKC5 _ _ ⟨(by repeat (first | exact agC5 | refine agree.upd rfl ?_)), (by first | exact eC5_b2 | (simp only [nb2_r0, nr0_b2, nb3_r0, nr0_b3, nb3_b2, nb2_b3, upd_app, seval]; first | done | exact eC5_b2)), ?_⟩
      first | exact ⟨a18, m18, _, by omega, by omega, hres, by first | exact upd_same _ _ _ | (simp only [f0, f2, f3, f16, hr0, hb2, hb3, nb2_r0, nr0_b2, nb3_r0, nr0_b3, nb3_b2, nb2_b3, List.length_map, strs, smL, one_strs, upd_app, RR, seval]; rfl), rfl, rfl, Sub.refl _, by first | exact hr0 | (simp only [f0, f2, f3, f16, hr0, hb2, hb3, nb2_r0, nr0_b2, nb3_r0, nr0_b3, nb3_b2, nb2_b3, List.length_map, strs, smL, one_strs, upd_app, RR, seval]; done)⟩ | exact ⟨[], m13, _, by omega, by omega, hres, by first | exact hb3 | (simp only [f0, f2, f3, f16, hr0, hb2, hb3, nb2_r0, nr0_b2, nb3_r0, nr0_b3, nb3_b2, nb2_b3, List.length_map, strs, smL, one_strs, upd_app, RR, seval]; rfl), rfl, rfl, Sub.nsl _, by first | exact hr0 | (simp only [f0, f2, f3, f16, hr0, hb2, hb3, nb2_r0, nr0_b2, nb3_r0, nr0_b3, nb3_b2, nb2_b3, List.length_map, strs, smL, one_strs, upd_app, RR, seval]; done)⟩
  rintro F6 M6 ⟨agx, gb2, ps, m, v1, hm1, hm, hres, hb3, w1, fl1, hsub, hr0⟩
  have f0 := (agx 0 rfl).trans f0
  have f2 := (agx 2 rfl).trans f2
  have f3 := (agx 3 rfl).trans f3
  have hb2 := gb2.trans hb2
  clear agx
  clear gb2
  simp only [RR, seval]
  unfold funK at hres
  refine awp_seq_k fun K hK => ?_
  refine awp_region rfl ?_
  simp only [f0, hb2, hb3, hr0, nb2_r0, nr0_b2, nb3_r0, nr0_b3, nb3_b2, nb2_b3, List.length_map, strs, smL, one_strs, w1, RR, seval]
  refine awpB_sealed ?_
  simp only [f0, hb2, hb3, hr0, nb2_r0, nr0_b2, nb3_r0, nr0_b3, nb3_b2, nb2_b3, List.length_map, strs, smL, one_strs, w1, RR, seval]
  refine awpC_rd (must_con r0 hT m e hm [41] (by decide)) (by first | exact hr0 | (simp only [f0, f2, f3, hb2, hb3, hr0, nb2_r0, nr0_b2, nb3_r0, nr0_b3, nb3_b2, nb2_b3, List.length_map, strs, smL, one_strs, w1, upd_app, RR, seval]; done)) trivial ?_ ?_
  · intro n22x H22x hbd
    simp only [hbd, PR.bind_bad] at hres
    subst hres
    simp only [thenQ_pan, blockQ_pan, bodyQ_pan, rpost]
  intro a22 m22 M7 ho22 hn22x hk22x
  simp only [ho22, PR.bind_ok] at hres
  have gb2 := hk22x b2 _ (by first | exact nb2_r0 | exact blk_ne hb2 hr0 (by decide) | (intro e; subst e; simp_all)) (by first | exact hb2 | exact upd_same _ _ _ | (simp only [f0, f2, f3, hb2, hb3, hr0, nb2_r0, nr0_b2, nb3_r0, nr0_b3, nb3_b2, nb2_b3, List.length_map, strs, smL, one_strs, w1, upd_app, RR, seval]; rfl))
  have gb3 := hk22x b3 _ (by first | exact nb3_r0 | exact blk_ne hb3 hr0 (by decide) | (intro e; subst e; simp_all)) (by first | exact hb3 | exact upd_same _ _ _ | (simp only [f0, f2, f3, hb2, hb3, hr0, nb2_r0, nr0_b2, nb3_r0, nr0_b3, nb3_b2, nb2_b3, List.length_map, strs, smL, one_strs, w1, upd_app, RR, seval]; rfl))
  have hb2 := gb2; clear gb2
  have hb3 := gb3; clear gb3
  have hr0 := hn22x; clear hn22x hk22x
  simp only [f0, hb2, hb3, hr0, nb2_r0, nr0_b2, nb3_r0, nr0_b3, nb3_b2, nb2_b3, List.length_map, strs, smL, one_strs, w1, RR, seval]
  refine hK _ _ ?_; clear hK K
  have hm22 := must_ok ho22 (by decide)
  refine awp_seq_k fun K hK => ?_
  refine awp_region rfl ?_
  simp only [f0, f3, hb2, hb3, hr0, nb2_r0, nr0_b2, nb3_r0, nr0_b3, nb3_b2, nb2_b3, List.length_map, strs, smL, one_strs, w1, RR, seval]
  refine awpC_rdo (may_con r0 hT m22 e (by omega) wWord (by decide)) (by first | exact hr0 | (simp only [f0, f2, f3, hb2, hb3, hr0, nb2_r0, nr0_b2, nb3_r0, nr0_b3, nb3_b2, nb2_b3, List.length_map, strs, smL, one_strs, w1, upd_app, RR, seval]; done)) trivial fun M8 hn24x hk24x => ?_
  have gb2 := hk24x b2 _ (by first | exact nb2_r0 | exact blk_ne hb2 hr0 (by decide) | (intro e; subst e; simp_all)) (by first | exact hb2 | exact upd_same _ _ _ | (simp only [f0, f2, f3, hb2, hb3, hr0, nb2_r0, nr0_b2, nb3_r0, nr0_b3, nb3_b2, nb2_b3, List.length_map, strs, smL, one_strs, w1, upd_app, RR, seval]; rfl))
  have gb3 := hk24x b3 _ (by first | exact nb3_r0 | exact blk_ne hb3 hr0 (by decide) | (intro e; subst e; simp_all)) (by first | exact hb3 | exact upd_same _ _ _ | (simp only [f0, f2, f3, hb2, hb3, hr0, nb2_r0, nr0_b2, nb3_r0, nr0_b3, nb3_b2, nb2_b3, List.length_map, strs, smL, one_strs, w1, upd_app, RR, seval]; rfl))
  have hb2 := gb2; clear gb2
  have hb3 := gb3; clear gb3
  have hr0 := hn24x; clear hn24x hk24x
  simp only [f0, f3, hb2, hb3, hr0, nb2_r0, nr0_b2, nb3_r0, nr0_b3, nb3_b2, nb2_b3, List.length_map, strs, smL, one_strs, w1, RR, seval]
  refine hK _ _ ?_; clear hK K
  have hmw : (if peekI T m22 = wWord then m22 + 1 else m22) ≤ T.length ∧ m22 ≤ (if peekI T m22 = wWord then m22 + 1 else m22) := by
    split
    · rename_i hw; have := peek_lt hw (by decide); omega
    · omega
  generalize (if peekI T m22 = wWord then m22 + 1 else m22) = mw at hres hr0 hmw
  refine awp_seq_k fun K hK => ?_
  refine awp_region rfl ?_
  simp only [f0, hb2, hb3, hr0, nb2_r0, nr0_b2, nb3_r0, nr0_b3, nb3_b2, nb2_b3, List.length_map, strs, smL, one_strs, w1, RR, seval]
  refine awpB_sealed ?_
  simp only [f0, hb2, hb3, hr0, nb2_r0, nr0_b2, nb3_r0, nr0_b3, nb3_b2, nb2_b3, List.length_map, strs, smL, one_strs, w1, RR, seval]
  refine awpC_rd (must_con r0 hT mw e hmw.1 [123] (by decide)) (by first | exact hr0 | (simp only [f0, f2, f3, hb2, hb3, hr0, nb2_r0, nr0_b2, nb3_r0, nr0_b3, nb3_b2, nb2_b3, List.length_map, strs, smL, one_strs, w1, upd_app, RR, seval]; done)) trivial ?_ ?_
  · intro n28x H28x hbd
    simp only [hbd, PR.bind_bad] at hres
    subst hres
    simp only [thenQ_pan, blockQ_pan, bodyQ_pan, rpost]
  intro a28 m28 M9 ho28 hn28x hk28x
  simp only [ho28, PR.bind_ok] at hres
  have gb2 := hk28x b2 _ (by first | exact nb2_r0 | exact blk_ne hb2 hr0 (by decide) | (intro e; subst e; simp_all)) (by first | exact hb2 | exact upd_same _ _ _ | (simp only [f0, f2, f3, hb2, hb3, hr0, nb2_r0, nr0_b2, nb3_r0, nr0_b3, nb3_b2, nb2_b3, List.length_map, strs, smL, one_strs, w1, upd_app, RR, seval]; rfl))
  have gb3 := hk28x b3 _ (by first | exact nb3_r0 | exact blk_ne hb3 hr0 (by decide) | (intro e; subst e; simp_all)) (by first | exact hb3 | exact upd_same _ _ _ | (simp only [f0, f2, f3, hb2, hb3, hr0, nb2_r0, nr0_b2, nb3_r0, nr0_b3, nb3_b2, nb2_b3, List.length_map, strs, smL, one_strs, w1, upd_app, RR, seval]; rfl))
  have hb2 := gb2; clear gb2
  have hb3 := gb3; clear gb3
  have hr0 := hn28x; clear hn28x hk28x
  simp only [f0, hb2, hb3, hr0, nb2_r0, nr0_b2, nb3_r0, nr0_b3, nb3_b2, nb2_b3, List.length_map, strs, smL, one_strs, w1, RR, seval]
  refine hK _ _ ?_; clear hK K
  have hm28 := must_ok ho28 (by decide)
  refine awp_seq ?_
  refine awp_name fun F10 M10 hfr hH => ?_
  have g0 := hfr 0
  have g2 := hfr 2
  have g3 := hfr 3
  have gb2 := hH b2
  have gb3 := hH b3
  have gr0 := hH r0
  try simp only [f0, f2, f3, hb2, hb3, hr0, nb2_r0, nr0_b2, nb3_r0, nr0_b3, nb3_b2, nb2_b3, List.length_map, strs, smL, one_strs, w1, RR, seval] at g0 g2 g3 gb2 gb3 gr0
  have f0 := g0; clear g0
  have f2 := g2; clear g2
  have f3 := g3; clear g3
  have hb2 := gb2; clear gb2
  have hb3 := gb3; clear gb3
  have hr0 := gr0; clear gr0
  clear hfr hH
  refine awp_block ?_
  refine awp_while [0, 2, 3] (T.length - m28) (fun k fr M => M b2 = M10 b2 ∧ (∃ (m : Nat) (acc : List Str) (v : AV), k = T.length - m ∧ m28 ≤ m ∧ m ≤ T.length ∧ acc.length ≤ m ∧ ((locP T acc m).bind fun ls c => funB T a8.text ps (decide (peekI T m22 = wWord)) ls c) = res ∧ OwnL 1 v (acc.map strRow) M ∧ M b3 = some (.rows 5 [[.str a8.text, v1, v, .bool (decide (peekI T m22 = wWord)), .nsl]]) ∧ M r0 = some (.rows 3 [[.isl 4 (T.map Tok.row), .int .i64 (m : Nat), .int .i64 (e : Nat)]]))) ⟨rfl, m28, [], .nsl, rfl, Nat.le_refl _, by omega, Nat.zero_le _, hres, .inl ⟨rfl, rfl⟩, by first | exact hb3 | (simp only [f0, f2, f3, hb2, hb3, hr0, nb2_r0, nr0_b2, nb3_r0, nr0_b3, nb3_b2, nb2_b3, List.length_map, strs, smL, one_strs, w1, upd_app, RR, seval]; done), hr0⟩ ?_
  rintro k F11 M11 ⟨gb2, m, acc, v, rfl, hnm, hm, hal, hres, hown, hb3, hr0⟩ agx K0 hK0
  have f0 := (agx 0 rfl).trans f0
  have f2 := (agx 2 rfl).trans f2
  have f3 := (agx 3 rfl).trans f3
  have hb2 := gb2.trans hb2
  have ag0 := agree.refl [0, 2, 3] F11
  have e0_b2 := gb2; clear gb2
  clear agx
  have ho3 := hown.offsz hb3 (by decide)
  have hone := hown.one1
  have hcls := hown.cells
  refine awp_seq ?_
  refine awp_seq_k fun K hK => ?_
  refine awp_region rfl ?_
  simp only [f0, hb2, hr0, hb3, nb2_r0, nr0_b2, nb3_r0, nr0_b3, nb3_b2, nb2_b3, List.length_map, strs, smL, one_strs, w1, hone, hcls, RR, seval]
  refine awpC_rdo (may_con r0 hT m e hm wVar (by decide)) (by first | exact hr0 | (simp only [f0, f2, f3, hb2, hr0, hb3, nb2_r0, nr0_b2, nb3_r0, nr0_b3, nb3_b2, nb2_b3, List.length_map, strs, smL, one_strs, w1, hone, hcls, upd_app, RR, seval]; done)) trivial fun M12 hn30x hk30x => ?_
  have gb2 := hk30x b2 _ (by first | exact nb2_r0 | exact blk_ne hb2 hr0 (by decide) | (intro e; subst e; simp_all)) (by first | exact hb2 | exact upd_same _ _ _ | (simp only [f0, f2, f3, hb2, hr0, hb3, nb2_r0, nr0_b2, nb3_r0, nr0_b3, nb3_b2, nb2_b3, List.length_map, strs, smL, one_strs, w1, hone, hcls, upd_app, RR, seval]; rfl))
  have e0_b2 := (gb2.trans hb2.symm).trans e0_b2
  have gb3 := hk30x b3 _ (by first | exact nb3_r0 | exact blk_ne hb3 hr0 (by decide) | (intro e; subst e; simp_all)) (by first | exact hb3 | exact upd_same _ _ _ | (simp only [f0, f2, f3, hb2, hr0, hb3, nb2_r0, nr0_b2, nb3_r0, nr0_b3, nb3_b2, nb2_b3, List.length_map, strs, smL, one_strs, w1, hone, hcls, upd_app, RR, seval]; rfl))
  have hb2 := gb2; clear gb2
  have hb3 := gb3; clear gb3
  have hown := OwnL.kp hown hr0 (by decide) hk30x
  have hr0 := hn30x; clear hn30x hk30x
  simp only [f0, hb2, hr0, hb3, nb2_r0, nr0_b2, nb3_r0, nr0_b3, nb3_b2, nb2_b3, List.length_map, strs, smL, one_strs, w1, hone, hcls, RR, seval]
  refine hK _ _ ?_; clear hK K
  refine awp_if _ rfl (fun hc => ?_) (fun hc => ?_)
  · have hw0 := hc; clear hc
    simp only [decide_eq_true_eq] at hw0
    rw [locP_eq, if_pos hw0] at hres
    rw [if_pos hw0] at hr0
    have hlt := peek_lt hw0 (by decide)
    refine awp_skip ?_; try simp only [RR]
    refine awp_block ?_
    refine awp_name fun F13 M13 hfr hH => ?_
    have g0 := hfr 0
    have g2 := hfr 2
    have g3 := hfr 3
    have gb2 := hH b2
    have gr0 := hH r0
    have gb3 := hH b3
    try simp only [f0, f2, f3, hb2, hr0, hb3, nb2_r0, nr0_b2, nb3_r0, nr0_b3, nb3_b2, nb2_b3, List.length_map, strs, smL, one_strs, w1, hone, hcls, RR, seval] at g0 g2 g3 gb2 gr0 gb3
    have ag0 : agree [0, 2, 3] F11 F13 := agree.same hfr (by repeat (first | exact ag0 | refine agree.upd rfl ?_))
    have e0_b2 := (hH b2).trans (by first | exact e0_b2 | (simp only [nb2_r0, nr0_b2, nb3_r0, nr0_b3, nb3_b2, nb2_b3, upd_app, seval]; first | done | exact e0_b2))
    have hown := hown.same hH
    have f0 := g0; clear g0
    have f2 := g2; clear g2
    have f3 := g3; clear g3
    have hb2 := gb2; clear gb2
    have hr0 := gr0; clear gr0
    have hb3 := gb3; clear gb3
    clear hfr hH
    refine awp_seq_k fun K hK => ?_
    refine awp_region_draw2 (fun x => x ≠ b3 ∧ x ≠ b2) [(0, 3), (1, 0), (2, 3), (3, 1), (4, 1), (5, 3)] [(6, 1)] draws (by kernel_rfl) rfl rfl ?_
    simp only [emitF, markOf, EM, f0, f3, hb2, hr0, hb3, nb2_r0, nr0_b2, nb3_r0, nr0_b3, nb3_b2, nb2_b3, List.length_map, strs, smL, one_strs, w1, hone, hcls, RR, seval]
    refine awpC_rd (names_con r0 hT (m + 1) e (by omega)) (by first | exact hr0 | (simp only [f0, f2, f3, hb2, hr0, hb3, nb2_r0, nr0_b2, nb3_r0, nr0_b3, nb3_b2, nb2_b3, List.length_map, strs, smL, one_strs, w1, hone, hcls, upd_app, RR, seval]; done)) (by first | trivial | (repeat' apply And.intro) <;> assumption) ?_ ?_
    · intro n34x H34x hbd
      simp only [hbd, PR.bind_bad] at hres
      subst hres
      simp only [thenQ_pan, blockQ_pan, bodyQ_pan, rpost]
    intro a34 m34 M14 ho34 hn34x hk34x
    simp only [ho34, PR.bind_ok] at hres
    have hln := namesP_len ho34
    have hlf := namesP_far ho34
    have gb2 := hk34x b2 _ (by first | exact nb2_r0 | exact blk_ne hb2 hr0 (by decide) | (intro e; subst e; simp_all)) (by first | exact hb2 | exact upd_same _ _ _ | (simp only [f0, f2, f3, hb2, hr0, hb3, nb2_r0, nr0_b2, nb3_r0, nr0_b3, nb3_b2, nb2_b3, List.length_map, strs, smL, one_strs, w1, hone, hcls, upd_app, RR, seval]; rfl))
    have e0_b2 := (gb2.trans hb2.symm).trans e0_b2
    have gb3 := hk34x b3 _ (by first | exact nb3_r0 | exact blk_ne hb3 hr0 (by decide) | (intro e; subst e; simp_all)) (by first | exact hb3 | exact upd_same _ _ _ | (simp only [f0, f2, f3, hb2, hr0, hb3, nb2_r0, nr0_b2, nb3_r0, nr0_b3, nb3_b2, nb2_b3, List.length_map, strs, smL, one_strs, w1, hone, hcls, upd_app, RR, seval]; rfl))
    have hb2 := gb2; clear gb2
    have hb3 := gb3; clear gb3
    have hown := OwnL.kp hown hr0 (by decide) hk34x
    have hr0 := hn34x; clear hn34x hk34x
    simp only [emitF, markOf, EM, f0, f3, hb2, hr0, hb3, nb2_r0, nr0_b2, nb3_r0, nr0_b3, nb3_b2, nb2_b3, List.length_map, strs, smL, one_strs, w1, hone, hcls, RR, seval]
    refine awpA_ownF hown (by simp only [List.length_map, List.length_cons, List.length_nil]; omega) (fun b e => by first | trivial | (repeat' apply And.intro) <;> (intro c; subst c; first | exact ho3 _ _ e | exact hown.nb' hb2 (by decide) e | exact hown.nb' hr0 (by decide) e)) fun v11 M15 hown' hk' hg' => ?_
    have ho3' := hg' b3 ho3 (by rw [hb3]; exact Option.some_ne_none _)
    simp only [emitF, markOf, EM, f0, f3, hb2, hr0, hb3, nb2_r0, nr0_b2, nb3_r0, nr0_b3, nb3_b2, nb2_b3, List.length_map, strs, smL, one_strs, w1, hone, hcls, RR, seval]
    have gb2 := hk' b2 _ hb2 (by first | exact (hown).nb' hb2 (by decide) | exact ho2 _ _ | assumption | (intro e; simp_all))
    have e0_b2 := (gb2.trans hb2.symm).trans e0_b2
    have hb2 := gb2; clear gb2
    have gr0 := hk' r0 _ hr0 (by first | exact (hown).nb' hr0 (by decide) | exact ho0 _ _ | assumption | (intro e; simp_all))
    have hr0 := gr0; clear gr0
    have gb3 := hk' b3 _ hb3 (by first | exact (hown).nb' hb3 (by decide) | exact ho3 _ _ | assumption | (intro e; simp_all))
    have hb3 := gb3; clear gb3
    have hce := hown'.cells; have hoe := hown'.one1
    try simp only [emitF, markOf, EM, hce, hoe, Option.bind_some, List.drop, f0, f3, hb2, hr0, hb3, nb2_r0, nr0_b2, nb3_r0, nr0_b3, nb3_b2, nb2_b3, List.length_map, strs, smL, one_strs, w1, hone, hcls, RR, seval]
    refine hK _ _ ?_; clear hK K
    refine awp_name fun F16 M16 hfr hH => ?_
    have g0 := hfr 0
    have g2 := hfr 2
    have g3 := hfr 3
    have gb2 := hH b2
    have gr0 := hH r0
    have gb3 := hH b3
    try simp only [f0, f2, f3, hb2, hr0, hb3, nb2_r0, nr0_b2, nb3_r0, nr0_b3, nb3_b2, nb2_b3, List.length_map, strs, smL, one_strs, w1, hone, hcls, RR, seval] at g0 g2 g3 gb2 gr0 gb3
    have ag0 : agree [0, 2, 3] F11 F16 := agree.same hfr (by repeat (first | exact ag0 | refine agree.upd rfl ?_))
    have e0_b2 := (hH b2).trans (by first | exact e0_b2 | (simp only [nb2_r0, nr0_b2, nb3_r0, nr0_b3, nb3_b2, nb2_b3, upd_app, seval]; first | done | exact e0_b2))
    have hown' := (hown'.off ho3' _).same hH
    have f0 := g0; clear g0
    have f2 := g2; clear g2
    have f3 := g3; clear g3
    have hb2 := gb2; clear gb2
    have hr0 := gr0; clear gr0
    have hb3 := gb3; clear gb3
    clear hfr hH
    refine awp_region rfl ?_
    simp only [f0, hb2, hr0, hb3, nb2_r0, nr0_b2, nb3_r0, nr0_b3, nb3_b2, nb2_b3, List.length_map, strs, smL, one_strs, w1, hone, hcls, RR, seval]
    refine awpB_sealed ?_
    simp only [f0, hb2, hr0, hb3, nb2_r0, nr0_b2, nb3_r0, nr0_b3, nb3_b2, nb2_b3, List.length_map, strs, smL, one_strs, w1, hone, hcls, RR, seval]
    refine awpC_rd (must_con r0 hT m34 e (by omega) [59] (by decide)) (by first | exact hr0 | (simp only [f0, f2, f3, hb2, hr0, hb3, nb2_r0, nr0_b2, nb3_r0, nr0_b3, nb3_b2, nb2_b3, List.length_map, strs, smL, one_strs, w1, hone, hcls, upd_app, RR, seval]; done)) trivial ?_ ?_
    · intro n39x H39x hbd
      simp only [hbd, PR.bind_bad] at hres
      subst hres
      simp only [thenQ_pan, blockQ_pan, bodyQ_pan, rpost]
    intro a39 m39 M17 ho39 hn39x hk39x
    simp only [ho39, PR.bind_ok] at hres
    have gb2 := hk39x b2 _ (by first | exact nb2_r0 | exact blk_ne hb2 hr0 (by decide) | (intro e; subst e; simp_all)) (by first | exact hb2 | exact upd_same _ _ _ | (simp only [f0, f2, f3, hb2, hr0, hb3, nb2_r0, nr0_b2, nb3_r0, nr0_b3, nb3_b2, nb2_b3, List.length_map, strs, smL, one_strs, w1, hone, hcls, upd_app, RR, seval]; rfl))
    have e0_b2 := (gb2.trans hb2.symm).trans e0_b2
    have gb3 := hk39x b3 _ (by first | exact nb3_r0 | exact blk_ne hb3 hr0 (by decide) | (intro e; subst e; simp_all)) (by first | exact hb3 | exact upd_same _ _ _ | (simp only [f0, f2, f3, hb2, hr0, hb3, nb2_r0, nr0_b2, nb3_r0, nr0_b3, nb3_b2, nb2_b3, List.length_map, strs, smL, one_strs, w1, hone, hcls, upd_app, RR, seval]; rfl))
    have hb2 := gb2; clear gb2
    have hb3 := gb3; clear gb3
    have hown' := OwnL.kp hown' hr0 (by decide) hk39x
    have hr0 := hn39x; clear hn39x hk39x
    simp only [f0, hb2, hr0, hb3, nb2_r0, nr0_b2, nb3_r0, nr0_b3, nb3_b2, nb2_b3, List.length_map, strs, smL, one_strs, w1, hone, hcls, RR, seval]
    have hm39 := must_ok ho39 (by decide)
    try rw [IntWalk.i64_in _ (by omega)]
    refine hK0 (T.length - m39) _ _ (by omega) ⟨(by first | exact e0_b2 | (simp only [nb2_r0, nr0_b2, nb3_r0, nr0_b3, nb3_b2, nb2_b3, upd_app, seval]; first | done | exact e0_b2)), m39, acc ++ a34, _, rfl, by omega, by omega, by simp only [List.length_append]; omega, hres, by rw [List.map_append]; exact hown', by first | exact hb3 | (simp only [f0, f2, f3, hb2, hr0, hb3, nb2_r0, nr0_b2, nb3_r0, nr0_b3, nb3_b2, nb2_b3, List.length_map, strs, smL, one_strs, w1, hone, hcls, upd_app, RR, seval]; done), by first | exact hr0 | (simp only [f0, f2, f3, hb2, hr0, hb3, nb2_r0, nr0_b2, nb3_r0, nr0_b3, nb3_b2, nb2_b3, List.length_map, strs, smL, one_strs, w1, hone, hcls, upd_app, RR, seval]; done)⟩ (by repeat (first | exact ag0 | refine agree.upd rfl ?_))
  · have hw0 := hc; clear hc
    simp only [decide_eq_false_iff_not] at hw0
    rw [locP_eq, if_neg hw0, PR.bind_ok] at hres
    rw [if_neg hw0] at hr0
    unfold funB at hres
    refine awp_exit ?_; simp only [RR, seval]
    refine awp_name fun F18 M18 hfr hH => ?_
    have g0 := hfr 0
    have g2 := hfr 2
    have g3 := hfr 3
    have gb2 := hH b2
    have gr0 := hH r0
    have gb3 := hH b3
    try simp only [f0, f2, f3, hb2, hr0, hb3, nb2_r0, nr0_b2, nb3_r0, nr0_b3, nb3_b2, nb2_b3, List.length_map, strs, smL, one_strs, w1, hone, hcls, RR, seval] at g0 g2 g3 gb2 gr0 gb3
    have hown := hown.same hH
    have f0 := g0; clear g0
    have f2 := g2; clear g2
    have f3 := g3; clear g3
    have hb2 := gb2; clear gb2
    have hr0 := gr0; clear gr0
    have hb3 := gb3; clear gb3
    clear hfr hH
    have h0 : M18 b3 = some (.rows 5 [[.str a8.text, v1] ++ v :: [.bool (decide (peekI T m22 = wWord)), .nsl]]) := hb3
    refine awp_sealP hown h0 (fun x hx => by simp only [List.mem_cons, List.not_mem_nil, or_false] at hx; rcases hx with rfl | rfl; exact noO_flat rfl; exact noO_flat fl1) (fun x hx => by simp only [List.mem_cons, List.not_mem_nil, or_false] at hx; rcases hx with rfl | rfl <;> exact noO_flat rfl) ho3 fun F8 M8 hfF hb3' hbF => ?_
    have f0 := (hfF 0 (by rw [f0]; exact noO_flat rfl)).trans f0
    have f2 := (hfF 2 (by rw [f2]; exact noO_flat rfl)).trans f2
    have f3 := (hfF 3 (by rw [f3]; exact noO_flat rfl)).trans f3
    have hr0 := hbF r0 _ _ (by assumption) (hown.offsz hr0 (by decide)) (fun r hr x hx => by simp only [List.mem_singleton] at hr; subst hr; simp only [List.mem_cons, List.not_mem_nil, or_false] at hx; rcases hx with rfl | rfl | rfl <;> exact noO_flat rfl) hr0
    have hb2 := hbF b2 _ _ (by assumption) (hown.offsz hb2 (by decide)) (fun r hr x hx => by simp only [List.mem_singleton] at hr; subst hr; simp only [List.mem_cons, List.not_mem_nil, or_false] at hx; rcases hx with rfl | rfl | rfl | rfl | rfl <;> exact noO_flat rfl) hb2
    have hb3 : M8 b3 = some (.rows 5 [[.str a8.text, v1, .isl 1 (acc.map strRow), .bool (decide (peekI T m22 = wWord)), .nsl]]) := hb3'
    clear hb3' h0 hown
    refine awp_seq_k fun K hK => ?_
    refine awp_region rfl ?_
    simp only [f0, f3, hb2, hr0, hb3, nb2_r0, nr0_b2, nb3_r0, nr0_b3, nb3_b2, nb2_b3, List.length_map, strs, smL, one_strs, w1, hone, hcls, RR, seval]
    refine awpC_rd (stmts_con r0 hT m e hm) (by first | exact hr0 | (simp only [f0, f2, f3, hb2, hr0, hb3, nb2_r0, nr0_b2, nb3_r0, nr0_b3, nb3_b2, nb2_b3, List.length_map, strs, smL, one_strs, w1, hone, hcls, upd_app, RR, seval]; done)) trivial ?_ ?_
    · intro n41x H41x hbd
      simp only [hbd, PR.bind_bad] at hres
      subst hres
      simp only [thenQ_pan, blockQ_pan, bodyQ_pan, rpost]
    intro a41 m41 M19 ho41 hn41x hk41x
    simp only [ho41, PR.bind_ok] at hres
    have gb2 := hk41x b2 _ (by first | exact nb2_r0 | exact blk_ne hb2 hr0 (by decide) | (intro e; subst e; simp_all)) (by first | exact hb2 | exact upd_same _ _ _ | (simp only [f0, f2, f3, hb2, hr0, hb3, nb2_r0, nr0_b2, nb3_r0, nr0_b3, nb3_b2, nb2_b3, List.length_map, strs, smL, one_strs, w1, hone, hcls, upd_app, RR, seval]; rfl))
    have gb3 := hk41x b3 _ (by first | exact nb3_r0 | exact blk_ne hb3 hr0 (by decide) | (intro e; subst e; simp_all)) (by first | exact hb3 | exact upd_same _ _ _ | (simp only [f0, f2, f3, hb2, hr0, hb3, nb2_r0, nr0_b2, nb3_r0, nr0_b3, nb3_b2, nb2_b3, List.length_map, strs, smL, one_strs, w1, hone, hcls, upd_app, RR, seval]; rfl))
    have hb2 := gb2; clear gb2
    have hb3 := gb3; clear gb3
    have hr0 := hn41x; clear hn41x hk41x
    simp only [f0, f3, hb2, hr0, hb3, nb2_r0, nr0_b2, nb3_r0, nr0_b3, nb3_b2, nb2_b3, List.length_map, strs, smL, one_strs, w1, hone, hcls, RR, seval]
    refine hK _ _ ?_; clear hK K
    refine awp_seq_k fun K hK => ?_
    refine awp_region rfl ?_
    simp only [f2, f3, hb2, hr0, hb3, nb2_r0, nr0_b2, nb3_r0, nr0_b3, nb3_b2, nb2_b3, List.length_map, strs, smL, one_strs, w1, hone, hcls, RR, seval]
    refine hK _ _ ?_; clear hK K
    refine awp_ret ?_; simp only [bodyQ, aresult, ares, f0, f2, f3, hb2, hr0, hb3, nb2_r0, nr0_b2, nb3_r0, nr0_b3, nb3_b2, nb2_b3, List.length_map, strs, smL, one_strs, w1, hone, hcls, RR, seval]
    refine rgives (by first | exact hr0 | (simp only [f0, f2, f3, hb2, hr0, hb3, nb2_r0, nr0_b2, nb3_r0, nr0_b3, nb3_b2, nb2_b3, List.length_map, strs, smL, one_strs, w1, hone, hcls, upd_app, RR, seval]; done)) hres.symm ?_
    exact Sub.aggR (SubR.cons (Sub.refl _) (SubR.cons hsub (SubR.cons (Sub.refl _) (SubR.cons (Sub.refl _) (SubR.cons (Sub.refl _) SubR.nil)))))
end Go.Proofs.YtlpeikljipknoaaDoor
