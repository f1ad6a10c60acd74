/- Chapter 15, the program's: a program. -/
import Derived.Test.YtlpeikljipknoaaDoorRb
set_option linter.unusedSimpArgs false
set_option linter.unusedVariables false
set_option maxRecDepth 10000
namespace Go.Al
theorem OwnL.app2 {sz sz' : Nat} {v v' : AV} {rows rows' : List (List AV)} {H H' : Hp} (h2 : OwnL sz' v' rows' H) (h1 : OwnL sz v rows H) (hs : sz' ≠ sz) (hk : ∀ b o, H b = some o → v ≠ .osl sz b rows.length → H' b = some o) : OwnL sz' v' rows' H' := by
  rcases h2 with h | ⟨c, e, hc⟩
  · exact .inl h
  · exact .inr ⟨c, e, hk c _ hc (h1.nb' hc hs)⟩
theorem noO_own {sz sz' : Nat} {v x : AV} {rows rows' : List (List AV)} {H : Hp} (h : OwnL sz v rows H) (hx : OwnL sz' x rows' H) (hs : sz' ≠ sz) : noO v x := fun s b n e => by
  subst e
  rcases hx with ⟨e, _⟩ | ⟨c, e, hc⟩
  · cases e
  · cases e
    exact h.offsz hc hs
theorem OwnL.nil (sz : Nat) (H : Hp) : OwnL sz .nsl [] H := .inl ⟨rfl, rfl⟩
theorem OwnL.thru {sz sz' sz0 : Nat} {v v' : AV} {rows rows' r : List (List AV)} {H H' : Hp} {b0 : Nat} (h2 : OwnL sz' v' rows' H) (h1 : OwnL sz v rows H) (hs : sz' ≠ sz) (h0 : H b0 = some (.rows sz0 r)) (hs0 : sz' ≠ sz0) (hf : (rows'.all fun r => r.all flatV) = true)
    (hk : ∀ b s l, b ≠ b0 → Al.off v b → (∀ r ∈ l, ∀ x ∈ r, noO v x) → H b = some (.rows s l) → H' b = some (.rows s l)) : OwnL sz' v' rows' H' := by
  rcases h2 with h | ⟨c, e, hc⟩
  · exact .inl h
  · refine .inr ⟨c, e, hk c _ _ (fun e => ?_) (h1.offsz hc hs) (fun r hr x hx => ?_) hc⟩
    · subst e; rw [h0] at hc; cases hc; exact hs0 rfl
    · simp only [List.all_eq_true] at hf
      exact noO_flat (hf r hr x hx)
theorem flat_strs (l : List Str) : ((l.map strRow).all fun r => r.all flatV) = true := by
  simp only [List.all_map, List.all_eq_true]; exact fun x _ => rfl
theorem flat_ars (l : List Ar) : ((l.map Ar.row).all fun r => r.all flatV) = true := by
  simp only [List.all_map, List.all_eq_true]; exact fun x _ => rfl
theorem flat_fus (l : List Fu) : ((l.map Fu.row).all fun r => r.all flatV) = true := by
  simp only [List.all_map, List.all_eq_true]; exact fun x _ => rfl
end Go.Al
namespace Go.Proofs.YtlpeikljipknoaaDoor
open Go.Al
def progK (T : List Tok) (va : List Str × List Ar) (m : Nat) : PR Pg := (funP T m).bind fun g m => (funsP T [g] m).bind fun fs m => .ok ⟨va.1, va.2, fs⟩ m
theorem progP_eq (T : List Tok) (n : Nat) : progP T n = (headP T [] [] n).bind (progK T) := rfl
def pgV (p : Pg) : AV := .agg [.isl 1 (p.vars.map strRow), .isl 2 (p.arrs.map Ar.row), .isl 5 (p.funs.map Fu.row)]
set_option maxHeartbeats 8000000 in
theorem prog_con (r0 : Nat) {T : List Tok} (hT : Sz T) (n e : Nat) (hn : n ≤ T.length) : RCon 25 [] r0 T n e pgV (progP T n) := by
  unfold RCon
  generalize hres : progP T n = res
  rw [progP_eq] at hres
  generalize hH0 : rdH r0 T n e = H0
  have hr0 : H0 r0 = some (.rows 3 [[.isl 4 (T.map Tok.row), .int .i64 (n : Nat), .int .i64 (e : Nat)]]) := by rw [← hH0]; exact rdH_at _ _ _ _
  clear hH0
  have hlen := hT.len
  refine con_of 65 [.cell 2 27] Tryd.func25 rfl rfl rfl rfl ?_
  refine awp_seq_k fun K hK => ?_
  refine awp_region rfl ?_
  simp only [hr0, List.length_map, strs, fuV, one_strs, RR, seval]
  refine awpN_intro fun b2 hn2 => ?_
  have nb2_r0 : b2 ≠ r0 := fun e => by rw [e] at hn2; simp only [hr0, RR, seval, reduceCtorEq] at hn2
  have nr0_b2 : r0 ≠ b2 := fun e => nb2_r0 e.symm
  simp only [hr0, nb2_r0, nr0_b2, List.length_map, strs, fuV, one_strs, RR, seval]
  refine hK _ _ ?_; clear hK K
  refine awp_seq_k fun K hK => ?_
  refine awp_region rfl ?_
  simp only [hr0, nb2_r0, nr0_b2, List.length_map, strs, fuV, one_strs, RR, seval]
  refine awpN_intro fun b3 hn3 => ?_
  have nb3_r0 : b3 ≠ r0 := fun e => by rw [e] at hn3; simp only [hr0, nb2_r0, nr0_b2, RR, seval, reduceCtorEq] at hn3
  have nr0_b3 : r0 ≠ b3 := fun e => nb3_r0 e.symm
  have nb3_b2 : b3 ≠ b2 := fun e => by rw [e] at hn3; simp only [nb2_r0, nr0_b2, RR, seval, reduceCtorEq] at hn3
  have nb2_b3 : b2 ≠ b3 := fun e => nb3_b2 e.symm
  simp only [hr0, nb2_r0, nr0_b2, nb3_r0, nr0_b3, nb3_b2, nb2_b3, List.length_map, strs, fuV, one_strs, RR, seval]
  refine hK _ _ ?_; clear hK K
  refine awp_seq ?_
  refine awp_name fun F1 M1 hfr hH => ?_
  have g0 := hfr 0
  have g2 := hfr 2
  have g3 := hfr 3
  have gr0 := hH r0
  have gb2 := hH b2
  have gb3 := hH b3
  try simp only [hr0, nb2_r0, nr0_b2, nb3_r0, nr0_b3, nb3_b2, nb2_b3, List.length_map, strs, fuV, one_strs, RR, seval] at g0 g2 g3 gr0 gb2 gb3
  have f0 := g0; clear g0
  have f2 := g2; clear g2
  have f3 := g3; clear g3
  have hr0 := gr0; clear gr0
  have hb2 := gb2; clear gb2
  have hb3 := gb3; clear gb3
  clear hfr hH
  refine awp_block ?_
  refine awp_while [0, 2, 3] (T.length - n) (fun k fr M => M b2 = M1 b2 ∧ (∃ (m : Nat) (vs : List Str) (ar : List Ar) (v1 v2 : AV), k = T.length - m ∧ n ≤ m ∧ m ≤ T.length ∧ vs.length ≤ m ∧ ar.length ≤ m ∧ ((headP T vs ar m).bind (progK T)) = res ∧ OwnL 1 v1 (vs.map strRow) M ∧ OwnL 2 v2 (ar.map Ar.row) M ∧ M b3 = some (.rows 3 [[v1, v2, .nsl]]) ∧ M r0 = some (.rows 3 [[.isl 4 (T.map Tok.row), .int .i64 (m : Nat), .int .i64 (e : Nat)]]))) ⟨rfl, n, [], [], .nsl, .nsl, rfl, Nat.le_refl _, hn, Nat.zero_le _, Nat.zero_le _, hres, .inl ⟨rfl, rfl⟩, .inl ⟨rfl, rfl⟩, hb3, hr0⟩ ?_
  rintro k F2 M2 ⟨gb2, m, vs, ar, v1, v2, rfl, hnm, hm, hvl, hal, hres, hown, hown2, hb3, hr0⟩ agx K0 hK0
  have f0 := (agx 0 rfl).trans f0
  have f2 := (agx 2 rfl).trans f2
  have f3 := (agx 3 rfl).trans f3
  have hb2 := gb2.trans hb2
  have ag0 := agree.refl [0, 2, 3] F2
  have e0_b2 := gb2; clear gb2
  clear agx
  have ho3 := hown.offsz hb3 (by decide)
  have hof2 := hown2.offsz hb3 (by decide)
  have hone := hown.one1
  have hcls := hown.cells
  have hone2 := hown2.one1
  have hcls2 := hown2.cells
  refine awp_block ?_
  refine awp_seq ?_
  refine awp_seq_k fun K hK => ?_
  refine awp_region rfl ?_
  simp only [f0, hb2, hr0, hb3, nb2_r0, nr0_b2, nb3_r0, nr0_b3, nb3_b2, nb2_b3, List.length_map, strs, fuV, one_strs, hone, hcls, hone2, hcls2, RR, seval]
  refine awpC_rdo (may_con r0 hT m e hm wVar (by decide)) (by first | exact hr0 | (simp only [f0, f2, f3, hb2, hr0, hb3, nb2_r0, nr0_b2, nb3_r0, nr0_b3, nb3_b2, nb2_b3, List.length_map, strs, fuV, one_strs, hone, hcls, hone2, hcls2, upd_app, RR, seval]; done)) trivial fun M3 hn7x hk7x => ?_
  have gb2 := hk7x b2 _ (by first | exact nb2_r0 | exact blk_ne hb2 hr0 (by decide) | (intro e; subst e; simp_all)) (by first | exact hb2 | exact upd_same _ _ _ | (simp only [f0, f2, f3, hb2, hr0, hb3, nb2_r0, nr0_b2, nb3_r0, nr0_b3, nb3_b2, nb2_b3, List.length_map, strs, fuV, one_strs, hone, hcls, hone2, hcls2, upd_app, RR, seval]; rfl))
  have e0_b2 := (gb2.trans hb2.symm).trans e0_b2
  have gb3 := hk7x b3 _ (by first | exact nb3_r0 | exact blk_ne hb3 hr0 (by decide) | (intro e; subst e; simp_all)) (by first | exact hb3 | exact upd_same _ _ _ | (simp only [f0, f2, f3, hb2, hr0, hb3, nb2_r0, nr0_b2, nb3_r0, nr0_b3, nb3_b2, nb2_b3, List.length_map, strs, fuV, one_strs, hone, hcls, hone2, hcls2, upd_app, RR, seval]; rfl))
  have hb2 := gb2; clear gb2
  have hb3 := gb3; clear gb3
  have hown := OwnL.kp hown hr0 (by decide) hk7x
  have hown2 := OwnL.kp hown2 hr0 (by decide) hk7x
  have hr0 := hn7x; clear hn7x hk7x
  simp only [f0, hb2, hr0, hb3, nb2_r0, nr0_b2, nb3_r0, nr0_b3, nb3_b2, nb2_b3, List.length_map, strs, fuV, one_strs, hone, hcls, hone2, hcls2, RR, seval]
  refine hK _ _ ?_; clear hK K
  refine awp_name fun F4 M4 hfr hH => ?_
  have g0 := hfr 0
  have g2 := hfr 2
  have g3 := hfr 3
  have g7 := hfr 7
  have gb2 := hH b2
  have gr0 := hH r0
  have gb3 := hH b3
  try simp only [f0, f2, f3, hb2, hr0, hb3, nb2_r0, nr0_b2, nb3_r0, nr0_b3, nb3_b2, nb2_b3, List.length_map, strs, fuV, one_strs, hone, hcls, hone2, hcls2, RR, seval] at g0 g2 g3 g7 gb2 gr0 gb3
  have ag0 : agree [0, 2, 3] F2 F4 := agree.same hfr (by repeat (first | exact ag0 | refine agree.upd rfl ?_))
  have e0_b2 := (hH b2).trans (by first | exact e0_b2 | (simp only [nb2_r0, nr0_b2, nb3_r0, nr0_b3, nb3_b2, nb2_b3, upd_app, seval]; first | done | exact e0_b2))
  have hown := hown.same hH
  have hown2 := hown2.same hH
  have f0 := g0; clear g0
  have f2 := g2; clear g2
  have f3 := g3; clear g3
  have f7 := g7; clear g7
  have hb2 := gb2; clear gb2
  have hr0 := gr0; clear gr0
  have hb3 := gb3; clear gb3
  clear hfr hH
  refine awp_cutP (fun fr M => agree [0, 2, 3] F4 fr ∧ M b2 = M4 b2 ∧ ∃ (m' : Nat) (vs' : List Str) (ar' : List Ar) (v1 v2 : AV), m < m' ∧ m' ≤ T.length ∧ vs'.length ≤ m' ∧ ar'.length ≤ m' ∧ (((mustI T [59] m').bind fun _ m => headP T vs' ar' m).bind (progK T)) = res ∧ OwnL 1 v1 (vs'.map strRow) M ∧ OwnL 2 v2 (ar'.map Ar.row) M ∧ M b3 = some (.rows 3 [[v1, v2, .nsl]]) ∧ M r0 = some (.rows 3 [[.isl 4 (T.map Tok.row), .int .i64 (m' : Nat), .int .i64 (e : Nat)]])) (fun KC2 hKC2 => ?_) ?_
  · have agC2 := agree.refl [0, 2, 3] F4
    have eC2_b2 : M4 b2 = M4 b2 := rfl
    refine awp_if _ (by first | rfl | exact f7) (fun hc2 => ?_) (fun hc2 => ?_)
    · simp only [decide_eq_true_eq, decide_eq_false_iff_not, Bool.not_eq_true', Bool.not_eq_false', Bool.not_true, Bool.not_false] at hc2
      simp only [if_pos hc2] at hres hr0 ⊢
      rw [headP_eq, if_pos hc2] at hres
      have hlt := peek_lt hc2 (by decide)
      refine awp_name fun F5 M5 hfr hH => ?_
      have g0 := hfr 0
      have g2 := hfr 2
      have g3 := hfr 3
      have gb2 := hH b2
      have gr0 := hH r0
      have gb3 := hH b3
      try simp only [f0, f2, f3, f7, hb2, hr0, hb3, nb2_r0, nr0_b2, nb3_r0, nr0_b3, nb3_b2, nb2_b3, List.length_map, strs, fuV, one_strs, hone, hcls, hone2, hcls2, RR, seval] at g0 g2 g3 gb2 gr0 gb3
      have ag0 : agree [0, 2, 3] F2 F5 := agree.same hfr (by repeat (first | exact ag0 | refine agree.upd rfl ?_))
      have e0_b2 := (hH b2).trans (by first | exact e0_b2 | (simp only [nb2_r0, nr0_b2, nb3_r0, nr0_b3, nb3_b2, nb2_b3, upd_app, seval]; first | done | exact e0_b2))
      have agC2 : agree [0, 2, 3] F4 F5 := agree.same hfr (by repeat (first | exact agC2 | refine agree.upd rfl ?_))
      have eC2_b2 := (hH b2).trans (by first | exact eC2_b2 | (simp only [nb2_r0, nr0_b2, nb3_r0, nr0_b3, nb3_b2, nb2_b3, upd_app, seval]; first | done | exact eC2_b2))
      have hown := hown.same hH
      have hown2 := hown2.same hH
      have f0 := g0; clear g0
      have f2 := g2; clear g2
      have f3 := g3; clear g3
      have hb2 := gb2; clear gb2
      have hr0 := gr0; clear gr0
      have hb3 := gb3; clear gb3
      clear hfr hH
      refine awp_region_draw2 (fun x => x ≠ b3 ∧ x ≠ b2) [(0, 3), (1, 0), (2, 3), (3, 1), (4, 1), (5, 3)] [(6, 1)] draws (by kernel_rfl) rfl rfl ?_
      simp only [emitF, markOf, EM, f0, f3, hb2, hr0, hb3, nb2_r0, nr0_b2, nb3_r0, nr0_b3, nb3_b2, nb2_b3, List.length_map, strs, fuV, one_strs, hone, hcls, hone2, hcls2, RR, seval]
      refine awpC_rd (names_con r0 hT (m + 1) e (by omega)) (by first | exact hr0 | (simp only [f0, f2, f3, hb2, hr0, hb3, nb2_r0, nr0_b2, nb3_r0, nr0_b3, nb3_b2, nb2_b3, List.length_map, strs, fuV, one_strs, hone, hcls, hone2, hcls2, upd_app, RR, seval]; done)) (by first | trivial | (repeat' apply And.intro) <;> assumption) ?_ ?_
      · intro n11x H11x hbd
        simp only [hbd, PR.bind_bad] at hres
        subst hres
        simp only [thenQ_pan, blockQ_pan, bodyQ_pan, rpost]
      intro a11 m11 M6 ho11 hn11x hk11x
      simp only [ho11, PR.bind_ok] at hres
      have hln := namesP_len ho11
      have hlf := namesP_far ho11
      have gb2 := hk11x b2 _ (by first | exact nb2_r0 | exact blk_ne hb2 hr0 (by decide) | (intro e; subst e; simp_all)) (by first | exact hb2 | exact upd_same _ _ _ | (simp only [f0, f2, f3, hb2, hr0, hb3, nb2_r0, nr0_b2, nb3_r0, nr0_b3, nb3_b2, nb2_b3, List.length_map, strs, fuV, one_strs, hone, hcls, hone2, hcls2, upd_app, RR, seval]; rfl))
      have e0_b2 := (gb2.trans hb2.symm).trans e0_b2
      have eC2_b2 := (gb2.trans hb2.symm).trans eC2_b2
      have gb3 := hk11x b3 _ (by first | exact nb3_r0 | exact blk_ne hb3 hr0 (by decide) | (intro e; subst e; simp_all)) (by first | exact hb3 | exact upd_same _ _ _ | (simp only [f0, f2, f3, hb2, hr0, hb3, nb2_r0, nr0_b2, nb3_r0, nr0_b3, nb3_b2, nb2_b3, List.length_map, strs, fuV, one_strs, hone, hcls, hone2, hcls2, upd_app, RR, seval]; rfl))
      have hb2 := gb2; clear gb2
      have hb3 := gb3; clear gb3
      have hown := OwnL.kp hown hr0 (by decide) hk11x
      have hown2 := OwnL.kp hown2 hr0 (by decide) hk11x
      have hr0 := hn11x; clear hn11x hk11x
      simp only [emitF, markOf, EM, f0, f3, hb2, hr0, hb3, nb2_r0, nr0_b2, nb3_r0, nr0_b3, nb3_b2, nb2_b3, List.length_map, strs, fuV, one_strs, hone, hcls, hone2, hcls2, RR, seval]
      refine awpA_ownF hown (by simp only [List.length_map, List.length_cons, List.length_nil]; omega) (fun b e => by first | trivial | (repeat' apply And.intro) <;> (intro c; subst c; first | exact ho3 _ _ e | exact hown.nb' hb2 (by decide) e | exact hown.nb' hr0 (by decide) e)) fun v3 M7 hown' hk' hg' => ?_
      have ho3' := hg' b3 ho3 (by rw [hb3]; exact Option.some_ne_none _)
      simp only [emitF, markOf, EM, f0, f3, hb2, hr0, hb3, nb2_r0, nr0_b2, nb3_r0, nr0_b3, nb3_b2, nb2_b3, List.length_map, strs, fuV, one_strs, hone, hcls, hone2, hcls2, RR, seval]
      have gb2 := hk' b2 _ hb2 (by first | exact (hown).nb' hb2 (by decide) | exact ho2 _ _ | assumption | (intro e; simp_all))
      have e0_b2 := (gb2.trans hb2.symm).trans e0_b2
      have eC2_b2 := (gb2.trans hb2.symm).trans eC2_b2
      have hb2 := gb2; clear gb2
      have gr0 := hk' r0 _ hr0 (by first | exact (hown).nb' hr0 (by decide) | exact ho0 _ _ | assumption | (intro e; simp_all))
      have hr0 := gr0; clear gr0
      have gb3 := hk' b3 _ hb3 (by first | exact (hown).nb' hb3 (by decide) | exact ho3 _ _ | assumption | (intro e; simp_all))
      have hb3 := gb3; clear gb3
      have hce := hown'.cells; have hoe := hown'.one1
      try simp only [emitF, markOf, EM, hce, hoe, Option.bind_some, List.drop, f0, f3, hb2, hr0, hb3, nb2_r0, nr0_b2, nb3_r0, nr0_b3, nb3_b2, nb2_b3, List.length_map, strs, fuV, one_strs, hone, hcls, hone2, hcls2, RR, seval]
      have hown2 := hown2.app2 hown (by decide) hk'
      refine hKC2 _ _ ⟨(by repeat (first | exact agC2 | refine agree.upd rfl ?_)), (by first | exact eC2_b2 | (simp only [nb2_r0, nr0_b2, nb3_r0, nr0_b3, nb3_b2, nb2_b3, upd_app, seval]; first | done | exact eC2_b2)), ?_⟩
      first | (have hq11 := hlf; refine ⟨m11, vs ++ a11, ar, _, v2, ?_, ?_, ?_, ?_, ?_, ?_, ?_, upd_same _ _ _, ?_⟩; omega; omega; (simp only [List.length_append]; omega); omega; exact hres; (rw [List.map_append]; exact hown'.off ho3' _); exact hown2.off hof2 _; (first | exact hr0 | (simp only [f0, f2, f3, hb2, hr0, hb3, nb2_r0, nr0_b2, nb3_r0, nr0_b3, nb3_b2, nb2_b3, List.length_map, strs, fuV, one_strs, hone, hcls, hone2, hcls2, upd_app, RR, seval]; done))) | (have hq36 := hm36; refine ⟨m36, vs, ar ++ [⟨a17.text, a23.num⟩], v1, _, ?_, ?_, ?_, ?_, ?_, hown, ?_, hb3, hr0⟩; omega; omega; omega; (simp only [List.length_append, List.length_cons, List.length_nil]; omega); exact hres; (rw [List.map_append]; exact hown2'))
    · simp only [decide_eq_true_eq, decide_eq_false_iff_not, Bool.not_eq_true', Bool.not_eq_false', Bool.not_true, Bool.not_false] at hc2
      simp only [if_neg hc2] at hres hr0 ⊢
      refine awp_seq_k fun K hK => ?_
      refine awp_region rfl ?_
      simp only [f0, hb2, hr0, hb3, nb2_r0, nr0_b2, nb3_r0, nr0_b3, nb3_b2, nb2_b3, List.length_map, strs, fuV, one_strs, hone, hcls, hone2, hcls2, RR, seval]
      refine awpC_rdo (may_con r0 hT m e hm wArray (by decide)) (by first | exact hr0 | (simp only [f0, f2, f3, f7, hb2, hr0, hb3, nb2_r0, nr0_b2, nb3_r0, nr0_b3, nb3_b2, nb2_b3, List.length_map, strs, fuV, one_strs, hone, hcls, hone2, hcls2, upd_app, RR, seval]; done)) trivial fun M8 hn15x hk15x => ?_
      have gb2 := hk15x b2 _ (by first | exact nb2_r0 | exact blk_ne hb2 hr0 (by decide) | (intro e; subst e; simp_all)) (by first | exact hb2 | exact upd_same _ _ _ | (simp only [f0, f2, f3, f7, hb2, hr0, hb3, nb2_r0, nr0_b2, nb3_r0, nr0_b3, nb3_b2, nb2_b3, List.length_map, strs, fuV, one_strs, hone, hcls, hone2, hcls2, upd_app, RR, seval]; rfl))
      have e0_b2 := (gb2.trans hb2.symm).trans e0_b2
      have eC2_b2 := (gb2.trans hb2.symm).trans eC2_b2
      have gb3 := hk15x b3 _ (by first | exact nb3_r0 | exact blk_ne hb3 hr0 (by decide) | (intro e; subst e; simp_all)) (by first | exact hb3 | exact upd_same _ _ _ | (simp only [f0, f2, f3, f7, hb2, hr0, hb3, nb2_r0, nr0_b2, nb3_r0, nr0_b3, nb3_b2, nb2_b3, List.length_map, strs, fuV, one_strs, hone, hcls, hone2, hcls2, upd_app, RR, seval]; rfl))
      have hb2 := gb2; clear gb2
      have hb3 := gb3; clear gb3
      have hown := OwnL.kp hown hr0 (by decide) hk15x
      have hown2 := OwnL.kp hown2 hr0 (by decide) hk15x
      have hr0 := hn15x; clear hn15x hk15x
      simp only [f0, hb2, hr0, hb3, nb2_r0, nr0_b2, nb3_r0, nr0_b3, nb3_b2, nb2_b3, List.length_map, strs, fuV, one_strs, hone, hcls, hone2, hcls2, RR, seval]
      refine hK _ _ ?_; clear hK K
      refine awp_if _ rfl (fun hc4 => ?_) (fun hc4 => ?_)
      · simp only [decide_eq_true_eq, decide_eq_false_iff_not, Bool.not_eq_true', Bool.not_eq_false', Bool.not_true, Bool.not_false] at hc4
        simp only [if_pos hc4] at hres hr0 ⊢
        rw [headP_eq, if_neg hc2, if_pos hc4] at hres
        have hlt := peek_lt hc4 (by decide)
        refine awp_seq_k fun K hK => ?_
        refine awp_region rfl ?_
        simp only [f0, hb2, hr0, hb3, nb2_r0, nr0_b2, nb3_r0, nr0_b3, nb3_b2, nb2_b3, List.length_map, strs, fuV, one_strs, hone, hcls, hone2, hcls2, RR, seval]
        refine awpC_rd (take_con r0 hT (m + 1) e (by omega) 1 (by decide)) (by first | exact hr0 | (simp only [f0, f2, f3, f7, hb2, hr0, hb3, nb2_r0, nr0_b2, nb3_r0, nr0_b3, nb3_b2, nb2_b3, List.length_map, strs, fuV, one_strs, hone, hcls, hone2, hcls2, upd_app, RR, seval]; done)) trivial ?_ ?_
        · intro n17x H17x hbd
          simp only [hbd, PR.bind_bad] at hres
          subst hres
          simp only [thenQ_pan, blockQ_pan, bodyQ_pan, rpost]
        intro a17 m17 M9 ho17 hn17x hk17x
        simp only [ho17, PR.bind_ok] at hres
        have gb2 := hk17x b2 _ (by first | exact nb2_r0 | exact blk_ne hb2 hr0 (by decide) | (intro e; subst e; simp_all)) (by first | exact hb2 | exact upd_same _ _ _ | (simp only [f0, f2, f3, f7, hb2, hr0, hb3, nb2_r0, nr0_b2, nb3_r0, nr0_b3, nb3_b2, nb2_b3, List.length_map, strs, fuV, one_strs, hone, hcls, hone2, hcls2, upd_app, RR, seval]; rfl))
        have e0_b2 := (gb2.trans hb2.symm).trans e0_b2
        have eC2_b2 := (gb2.trans hb2.symm).trans eC2_b2
        have gb3 := hk17x b3 _ (by first | exact nb3_r0 | exact blk_ne hb3 hr0 (by decide) | (intro e; subst e; simp_all)) (by first | exact hb3 | exact upd_same _ _ _ | (simp only [f0, f2, f3, f7, hb2, hr0, hb3, nb2_r0, nr0_b2, nb3_r0, nr0_b3, nb3_b2, nb2_b3, List.length_map, strs, fuV, one_strs, hone, hcls, hone2, hcls2, upd_app, RR, seval]; rfl))
        have hb2 := gb2; clear gb2
        have hb3 := gb3; clear gb3
        have hown := OwnL.kp hown hr0 (by decide) hk17x
        have hown2 := OwnL.kp hown2 hr0 (by decide) hk17x
        have hr0 := hn17x; clear hn17x hk17x
        simp only [f0, hb2, hr0, hb3, nb2_r0, nr0_b2, nb3_r0, nr0_b3, nb3_b2, nb2_b3, List.length_map, strs, fuV, one_strs, hone, hcls, hone2, hcls2, RR, seval]
        refine hK _ _ ?_; clear hK K
        have hm17 := take_ok ho17
        refine awp_seq_k fun K hK => ?_
        refine awp_region rfl ?_
        simp only [f0, hb2, hr0, hb3, nb2_r0, nr0_b2, nb3_r0, nr0_b3, nb3_b2, nb2_b3, List.length_map, strs, fuV, one_strs, hone, hcls, hone2, hcls2, RR, seval]
        refine awpB_sealed ?_
        simp only [f0, hb2, hr0, hb3, nb2_r0, nr0_b2, nb3_r0, nr0_b3, nb3_b2, nb2_b3, List.length_map, strs, fuV, one_strs, hone, hcls, hone2, hcls2, RR, seval]
        refine awpC_rd (must_con r0 hT m17 e (by omega) [91] (by decide)) (by first | exact hr0 | (simp only [f0, f2, f3, f7, hb2, hr0, hb3, nb2_r0, nr0_b2, nb3_r0, nr0_b3, nb3_b2, nb2_b3, List.length_map, strs, fuV, one_strs, hone, hcls, hone2, hcls2, upd_app, RR, seval]; done)) trivial ?_ ?_
        · intro n21x H21x hbd
          simp only [hbd, PR.bind_bad] at hres
          subst hres
          simp only [thenQ_pan, blockQ_pan, bodyQ_pan, rpost]
        intro a21 m21 M10 ho21 hn21x hk21x
        simp only [ho21, PR.bind_ok] at hres
        have gb2 := hk21x b2 _ (by first | exact nb2_r0 | exact blk_ne hb2 hr0 (by decide) | (intro e; subst e; simp_all)) (by first | exact hb2 | exact upd_same _ _ _ | (simp only [f0, f2, f3, f7, hb2, hr0, hb3, nb2_r0, nr0_b2, nb3_r0, nr0_b3, nb3_b2, nb2_b3, List.length_map, strs, fuV, one_strs, hone, hcls, hone2, hcls2, upd_app, RR, seval]; rfl))
        have e0_b2 := (gb2.trans hb2.symm).trans e0_b2
        have eC2_b2 := (gb2.trans hb2.symm).trans eC2_b2
        have gb3 := hk21x b3 _ (by first | exact nb3_r0 | exact blk_ne hb3 hr0 (by decide) | (intro e; subst e; simp_all)) (by first | exact hb3 | exact upd_same _ _ _ | (simp only [f0, f2, f3, f7, hb2, hr0, hb3, nb2_r0, nr0_b2, nb3_r0, nr0_b3, nb3_b2, nb2_b3, List.length_map, strs, fuV, one_strs, hone, hcls, hone2, hcls2, upd_app, RR, seval]; rfl))
        have hb2 := gb2; clear gb2
        have hb3 := gb3; clear gb3
        have hown := OwnL.kp hown hr0 (by decide) hk21x
        have hown2 := OwnL.kp hown2 hr0 (by decide) hk21x
        have hr0 := hn21x; clear hn21x hk21x
        simp only [f0, hb2, hr0, hb3, nb2_r0, nr0_b2, nb3_r0, nr0_b3, nb3_b2, nb2_b3, List.length_map, strs, fuV, one_strs, hone, hcls, hone2, hcls2, RR, seval]
        refine hK _ _ ?_; clear hK K
        have hm21 := must_ok ho21 (by decide)
        refine awp_seq_k fun K hK => ?_
        refine awp_region rfl ?_
        simp only [f0, hb2, hr0, hb3, nb2_r0, nr0_b2, nb3_r0, nr0_b3, nb3_b2, nb2_b3, List.length_map, strs, fuV, one_strs, hone, hcls, hone2, hcls2, RR, seval]
        refine awpC_rd (take_con r0 hT m21 e (by omega) 2 (by decide)) (by first | exact hr0 | (simp only [f0, f2, f3, f7, hb2, hr0, hb3, nb2_r0, nr0_b2, nb3_r0, nr0_b3, nb3_b2, nb2_b3, List.length_map, strs, fuV, one_strs, hone, hcls, hone2, hcls2, upd_app, RR, seval]; done)) trivial ?_ ?_
        · intro n23x H23x hbd
          simp only [hbd, PR.bind_bad] at hres
          subst hres
          simp only [thenQ_pan, blockQ_pan, bodyQ_pan, rpost]
        intro a23 m23 M11 ho23 hn23x hk23x
        simp only [ho23, PR.bind_ok] at hres
        have hm23 := take_ok ho23
        have hnu := (hT.tok _ (List.mem_of_getElem? hm23.2.2.1)).1
        have hwn : IntKind.wrap .i64 a23.num = a23.num := IntWalk.i64_in _ (by have := hnu.1; have := hnu.2; omega)
        have gb2 := hk23x b2 _ (by first | exact nb2_r0 | exact blk_ne hb2 hr0 (by decide) | (intro e; subst e; simp_all)) (by first | exact hb2 | exact upd_same _ _ _ | (simp only [f0, f2, f3, f7, hb2, hr0, hb3, nb2_r0, nr0_b2, nb3_r0, nr0_b3, nb3_b2, nb2_b3, List.length_map, strs, fuV, one_strs, hone, hcls, hone2, hcls2, hwn, upd_app, RR, seval]; rfl))
        have e0_b2 := (gb2.trans hb2.symm).trans e0_b2
        have eC2_b2 := (gb2.trans hb2.symm).trans eC2_b2
        have gb3 := hk23x b3 _ (by first | exact nb3_r0 | exact blk_ne hb3 hr0 (by decide) | (intro e; subst e; simp_all)) (by first | exact hb3 | exact upd_same _ _ _ | (simp only [f0, f2, f3, f7, hb2, hr0, hb3, nb2_r0, nr0_b2, nb3_r0, nr0_b3, nb3_b2, nb2_b3, List.length_map, strs, fuV, one_strs, hone, hcls, hone2, hcls2, hwn, upd_app, RR, seval]; rfl))
        have hb2 := gb2; clear gb2
        have hb3 := gb3; clear gb3
        have hown := OwnL.kp hown hr0 (by decide) hk23x
        have hown2 := OwnL.kp hown2 hr0 (by decide) hk23x
        have hr0 := hn23x; clear hn23x hk23x
        simp only [f0, hb2, hr0, hb3, nb2_r0, nr0_b2, nb3_r0, nr0_b3, nb3_b2, nb2_b3, List.length_map, strs, fuV, one_strs, hone, hcls, hone2, hcls2, hwn, RR, seval]
        refine hK _ _ ?_; clear hK K
        refine awp_name fun F12 M12 hfr hH => ?_
        have g0 := hfr 0
        have g2 := hfr 2
        have g3 := hfr 3
        have g4 := hfr 4
        have g5 := hfr 5
        have gb2 := hH b2
        have gr0 := hH r0
        have gb3 := hH b3
        try simp only [f0, f2, f3, f7, hb2, hr0, hb3, nb2_r0, nr0_b2, nb3_r0, nr0_b3, nb3_b2, nb2_b3, List.length_map, strs, fuV, one_strs, hone, hcls, hone2, hcls2, hwn, RR, seval] at g0 g2 g3 g4 g5 gb2 gr0 gb3
        have ag0 : agree [0, 2, 3] F2 F12 := agree.same hfr (by repeat (first | exact ag0 | refine agree.upd rfl ?_))
        have e0_b2 := (hH b2).trans (by first | exact e0_b2 | (simp only [nb2_r0, nr0_b2, nb3_r0, nr0_b3, nb3_b2, nb2_b3, upd_app, seval]; first | done | exact e0_b2))
        have agC2 : agree [0, 2, 3] F4 F12 := agree.same hfr (by repeat (first | exact agC2 | refine agree.upd rfl ?_))
        have eC2_b2 := (hH b2).trans (by first | exact eC2_b2 | (simp only [nb2_r0, nr0_b2, nb3_r0, nr0_b3, nb3_b2, nb2_b3, upd_app, seval]; first | done | exact eC2_b2))
        have hown := hown.same hH
        have hown2 := hown2.same hH
        have ho1k := ho3
        have ho3 := hof2
        have f0 := g0; clear g0
        have f2 := g2; clear g2
        have f3 := g3; clear g3
        have f4 := g4; clear g4
        have f5 := g5; clear g5
        have hb2 := gb2; clear gb2
        have hr0 := gr0; clear gr0
        have hb3 := gb3; clear gb3
        clear hfr hH
        refine awp_seq_k fun K hK => ?_
        refine awp_region rfl ?_
        simp only [f3, f4, f5, hb2, hr0, hb3, nb2_r0, nr0_b2, nb3_r0, nr0_b3, nb3_b2, nb2_b3, List.length_map, strs, fuV, one_strs, hone, hcls, hone2, hcls2, hwn, RR, seval]
        refine awpB_sealed ?_
        simp only [f3, f4, f5, hb2, hr0, hb3, nb2_r0, nr0_b2, nb3_r0, nr0_b3, nb3_b2, nb2_b3, List.length_map, strs, fuV, one_strs, hone, hcls, hone2, hcls2, hwn, RR, seval]
        refine awpA_ownF hown2 (by simp only [List.length_map, List.length_cons, List.length_nil]; omega) (fun b e => by first | trivial | (repeat' apply And.intro) <;> (intro c; subst c; first | exact ho3 _ _ e | exact hown2.nb' hb2 (by decide) e | exact hown2.nb' hr0 (by decide) e)) fun v8 M13 hown2' hk' hg' => ?_
        have ho3' := hg' b3 ho3 (by rw [hb3]; exact Option.some_ne_none _)
        simp only [f3, f4, f5, hb2, hr0, hb3, nb2_r0, nr0_b2, nb3_r0, nr0_b3, nb3_b2, nb2_b3, List.length_map, strs, fuV, one_strs, hone, hcls, hone2, hcls2, hwn, RR, seval]
        have gb2 := hk' b2 _ hb2 (by first | exact (hown2).nb' hb2 (by decide) | exact ho2 _ _ | assumption | (intro e; simp_all))
        have e0_b2 := (gb2.trans hb2.symm).trans e0_b2
        have eC2_b2 := (gb2.trans hb2.symm).trans eC2_b2
        have hb2 := gb2; clear gb2
        have gr0 := hk' r0 _ hr0 (by first | exact (hown2).nb' hr0 (by decide) | exact ho0 _ _ | assumption | (intro e; simp_all))
        have hr0 := gr0; clear gr0
        have gb3 := hk' b3 _ hb3 (by first | exact (hown2).nb' hb3 (by decide) | exact ho3 _ _ | assumption | (intro e; simp_all))
        have hb3 := gb3; clear gb3
        have hce := hown2'.cells; have hoe := hown2'.one1
        try simp only [hce, hoe, Option.bind_some, List.drop, f3, f4, f5, hb2, hr0, hb3, nb2_r0, nr0_b2, nb3_r0, nr0_b3, nb3_b2, nb2_b3, List.length_map, strs, fuV, one_strs, hone, hcls, hone2, hcls2, hwn, RR, seval]
        refine hK _ _ ?_; clear hK K
        have hown := hown.app2 hown2 (by decide) hk'
        refine awp_name fun F14 M14 hfr hH => ?_
        have g0 := hfr 0
        have g2 := hfr 2
        have g3 := hfr 3
        have g4 := hfr 4
        have g5 := hfr 5
        have gb2 := hH b2
        have gr0 := hH r0
        have gb3 := hH b3
        try simp only [f0, f2, f3, f4, f5, hb2, hr0, hb3, nb2_r0, nr0_b2, nb3_r0, nr0_b3, nb3_b2, nb2_b3, List.length_map, strs, fuV, one_strs, hone, hcls, hone2, hcls2, hwn, RR, seval] at g0 g2 g3 g4 g5 gb2 gr0 gb3
        have ag0 : agree [0, 2, 3] F2 F14 := agree.same hfr (by repeat (first | exact ag0 | refine agree.upd rfl ?_))
        have e0_b2 := (hH b2).trans (by first | exact e0_b2 | (simp only [nb2_r0, nr0_b2, nb3_r0, nr0_b3, nb3_b2, nb2_b3, upd_app, seval]; first | done | exact e0_b2))
        have agC2 : agree [0, 2, 3] F4 F14 := agree.same hfr (by repeat (first | exact agC2 | refine agree.upd rfl ?_))
        have eC2_b2 := (hH b2).trans (by first | exact eC2_b2 | (simp only [nb2_r0, nr0_b2, nb3_r0, nr0_b3, nb3_b2, nb2_b3, upd_app, seval]; first | done | exact eC2_b2))
        have hown2' := (hown2'.off ho3' _).same hH
        have hown := (hown.off ho1k _).same hH
        have f0 := g0; clear g0
        have f2 := g2; clear g2
        have f3 := g3; clear g3
        have f4 := g4; clear g4
        have f5 := g5; clear g5
        have hb2 := gb2; clear gb2
        have hr0 := gr0; clear gr0
        have hb3 := gb3; clear gb3
        clear hfr hH
        refine awp_region rfl ?_
        simp only [f0, hb2, hr0, hb3, nb2_r0, nr0_b2, nb3_r0, nr0_b3, nb3_b2, nb2_b3, List.length_map, strs, fuV, one_strs, hone, hcls, hone2, hcls2, hwn, RR, seval]
        refine awpB_sealed ?_
        simp only [f0, hb2, hr0, hb3, nb2_r0, nr0_b2, nb3_r0, nr0_b3, nb3_b2, nb2_b3, List.length_map, strs, fuV, one_strs, hone, hcls, hone2, hcls2, hwn, RR, seval]
        refine awpC_rd (must_con r0 hT m23 e (by omega) [93] (by decide)) (by first | exact hr0 | (simp only [f0, f2, f3, f4, f5, hb2, hr0, hb3, nb2_r0, nr0_b2, nb3_r0, nr0_b3, nb3_b2, nb2_b3, List.length_map, strs, fuV, one_strs, hone, hcls, hone2, hcls2, hwn, upd_app, RR, seval]; done)) trivial ?_ ?_
        · intro n36x H36x hbd
          simp only [hbd, PR.bind_bad] at hres
          subst hres
          simp only [thenQ_pan, blockQ_pan, bodyQ_pan, rpost]
        intro a36 m36 M15 ho36 hn36x hk36x
        simp only [ho36, PR.bind_ok] at hres
        have gb2 := hk36x b2 _ (by first | exact nb2_r0 | exact blk_ne hb2 hr0 (by decide) | (intro e; subst e; simp_all)) (by first | exact hb2 | exact upd_same _ _ _ | (simp only [f0, f2, f3, f4, f5, hb2, hr0, hb3, nb2_r0, nr0_b2, nb3_r0, nr0_b3, nb3_b2, nb2_b3, List.length_map, strs, fuV, one_strs, hone, hcls, hone2, hcls2, hwn, upd_app, RR, seval]; rfl))
        have e0_b2 := (gb2.trans hb2.symm).trans e0_b2
        have eC2_b2 := (gb2.trans hb2.symm).trans eC2_b2
        have gb3 := hk36x b3 _ (by first | exact nb3_r0 | exact blk_ne hb3 hr0 (by decide) | (intro e; subst e; simp_all)) (by first | exact hb3 | exact upd_same _ _ _ | (simp only [f0, f2, f3, f4, f5, hb2, hr0, hb3, nb2_r0, nr0_b2, nb3_r0, nr0_b3, nb3_b2, nb2_b3, List.length_map, strs, fuV, one_strs, hone, hcls, hone2, hcls2, hwn, upd_app, RR, seval]; rfl))
        have hb2 := gb2; clear gb2
        have hb3 := gb3; clear gb3
        have hown := OwnL.kp hown hr0 (by decide) hk36x
        have hown2' := OwnL.kp hown2' hr0 (by decide) hk36x
        have hr0 := hn36x; clear hn36x hk36x
        simp only [f0, hb2, hr0, hb3, nb2_r0, nr0_b2, nb3_r0, nr0_b3, nb3_b2, nb2_b3, List.length_map, strs, fuV, one_strs, hone, hcls, hone2, hcls2, hwn, RR, seval]
        have hm36 := must_ok ho36 (by decide)
        refine hKC2 _ _ ⟨(by repeat (first | exact agC2 | refine agree.upd rfl ?_)), (by first | exact eC2_b2 | (simp only [nb2_r0, nr0_b2, nb3_r0, nr0_b3, nb3_b2, nb2_b3, upd_app, seval]; first | done | exact eC2_b2)), ?_⟩
        first | (have hq11 := hlf; refine ⟨m11, vs ++ a11, ar, _, v2, ?_, ?_, ?_, ?_, ?_, ?_, ?_, upd_same _ _ _, ?_⟩; omega; omega; (simp only [List.length_append]; omega); omega; exact hres; (rw [List.map_append]; exact hown'.off ho3' _); exact hown2.off hof2 _; (first | exact hr0 | (simp only [f0, f2, f3, f4, f5, hb2, hr0, hb3, nb2_r0, nr0_b2, nb3_r0, nr0_b3, nb3_b2, nb2_b3, List.length_map, strs, fuV, one_strs, hone, hcls, hone2, hcls2, hwn, upd_app, RR, seval]; done))) | (have hq36 := hm36; refine ⟨m36, vs, ar ++ [⟨a17.text, a23.num⟩], v1, _, ?_, ?_, ?_, ?_, ?_, hown, ?_, hb3, hr0⟩; omega; omega; omega; (simp only [List.length_append, List.length_cons, List.length_nil]; omega); exact hres; (rw [List.map_append]; exact hown2'))
      · simp only [decide_eq_true_eq, decide_eq_false_iff_not, Bool.not_eq_true', Bool.not_eq_false', Bool.not_true, Bool.not_false] at hc4
        simp only [if_neg hc4] at hres hr0 ⊢
        rw [headP_eq, if_neg hc2, if_neg hc4, PR.bind_ok] at hres
        unfold progK at hres
        refine awp_exit ?_; simp only [RR, seval]
        refine awp_name fun F16 M16 hfr hH => ?_
        have g0 := hfr 0
        have g2 := hfr 2
        have g3 := hfr 3
        have gb2 := hH b2
        have gr0 := hH r0
        have gb3 := hH b3
        try simp only [f0, f2, f3, f7, hb2, hr0, hb3, nb2_r0, nr0_b2, nb3_r0, nr0_b3, nb3_b2, nb2_b3, List.length_map, strs, fuV, one_strs, hone, hcls, hone2, hcls2, RR, seval] at g0 g2 g3 gb2 gr0 gb3
        have hown := hown.same hH
        have hown2 := hown2.same hH
        have f0 := g0; clear g0
        have f2 := g2; clear g2
        have f3 := g3; clear g3
        have hb2 := gb2; clear gb2
        have hr0 := gr0; clear gr0
        have hb3 := gb3; clear gb3
        clear hfr hH
        have h0 : M16 b3 = some (.rows 3 [[] ++ v1 :: [v2, .nsl]]) := hb3
        refine awp_sealP hown h0 (fun x hx => by cases hx) (fun x hx => by simp only [List.mem_cons, List.not_mem_nil, or_false] at hx; rcases hx with rfl | rfl; exact noO_own hown hown2 (by decide); exact noO_flat rfl) ho3 fun F7a M7a hfF hb3' hbF => ?_
        have f0 := (hfF 0 (by rw [f0]; exact noO_flat rfl)).trans f0
        have f2 := (hfF 2 (by rw [f2]; exact noO_flat rfl)).trans f2
        have f3 := (hfF 3 (by rw [f3]; exact noO_flat rfl)).trans f3
        have hr0 := hbF r0 _ _ nr0_b3 (hown.offsz hr0 (by decide)) (fun r hr x hx => by simp only [List.mem_singleton] at hr; subst hr; simp only [List.mem_cons, List.not_mem_nil, or_false] at hx; rcases hx with rfl | rfl | rfl <;> exact noO_flat rfl) hr0
        have hb2 := hbF b2 _ _ nb2_b3 (hown.offsz hb2 (by decide)) (fun r hr x hx => by simp only [List.mem_singleton] at hr; subst hr; simp only [List.mem_cons, List.not_mem_nil, or_false] at hx; rcases hx with rfl | rfl | rfl <;> exact noO_flat rfl) hb2
        have hown2 := hown2.thru hown (by decide) hb3 (by decide) (flat_ars _) hbF
        have hb3 : M7a b3 = some (.rows 3 [[.isl 1 (vs.map strRow), v2, .nsl]]) := hb3'
        clear hb3' h0 hfF hbF
        have h0 : M7a b3 = some (.rows 3 [[.isl 1 (vs.map strRow)] ++ v2 :: [.nsl]]) := hb3
        refine awp_sealP hown2 h0 (fun x hx => by simp only [List.mem_cons, List.not_mem_nil, or_false] at hx; rcases hx with rfl; exact noO_flat rfl) (fun x hx => by simp only [List.mem_cons, List.not_mem_nil, or_false] at hx; rcases hx with rfl; exact noO_flat rfl) hof2 fun F7b M7b hfF hb3' hbF => ?_
        have f0 := (hfF 0 (by rw [f0]; exact noO_flat rfl)).trans f0
        have f2 := (hfF 2 (by rw [f2]; exact noO_flat rfl)).trans f2
        have f3 := (hfF 3 (by rw [f3]; exact noO_flat rfl)).trans f3
        have hr0 := hbF r0 _ _ nr0_b3 (hown2.offsz hr0 (by decide)) (fun r hr x hx => by simp only [List.mem_singleton] at hr; subst hr; simp only [List.mem_cons, List.not_mem_nil, or_false] at hx; rcases hx with rfl | rfl | rfl <;> exact noO_flat rfl) hr0
        have hb2 := hbF b2 _ _ nb2_b3 (hown2.offsz hb2 (by decide)) (fun r hr x hx => by simp only [List.mem_singleton] at hr; subst hr; simp only [List.mem_cons, List.not_mem_nil, or_false] at hx; rcases hx with rfl | rfl | rfl <;> exact noO_flat rfl) hb2
        have hb3 : M7b b3 = some (.rows 3 [[.isl 1 (vs.map strRow), .isl 2 (ar.map Ar.row), .nsl]]) := hb3'
        clear hb3' h0 hfF hbF
        have ho3 : Al.off AV.nsl b3 := fun _ _ h => by cases h
        refine awp_seq_k fun K hK => ?_
        refine awp_region_draw2 (fun x => x ≠ b3 ∧ x ≠ b2) [(0, 3), (1, 0), (2, 3), (3, 1), (4, 2), (5, 1), (6, 3)] [(7, 1)] draws (by kernel_rfl) rfl rfl ?_
        simp only [emitF, markOf, EM, f0, f3, hb2, hr0, hb3, nb2_r0, nr0_b2, nb3_r0, nr0_b3, nb3_b2, nb2_b3, List.length_map, strs, fuV, one_strs, hone, hcls, hone2, hcls2, RR, seval]
        refine awpC_rd (fun_con r0 hT m e hm) (by first | exact hr0 | (simp only [f0, f2, f3, hb2, hr0, hb3, nb2_r0, nr0_b2, nb3_r0, nr0_b3, nb3_b2, nb2_b3, List.length_map, strs, fuV, one_strs, hone, hcls, hone2, hcls2, upd_app, RR, seval]; done)) (by first | trivial | (repeat' apply And.intro) <;> assumption) ?_ ?_
        · intro n43x H43x hbd
          simp only [hbd, PR.bind_bad] at hres
          subst hres
          simp only [thenQ_pan, blockQ_pan, bodyQ_pan, rpost]
        intro a43 m43 M17 ho43 hn43x hk43x
        simp only [ho43, PR.bind_ok] at hres
        have gb2 := hk43x b2 _ (by first | exact nb2_r0 | exact blk_ne hb2 hr0 (by decide) | (intro e; subst e; simp_all)) (by first | exact hb2 | exact upd_same _ _ _ | (simp only [f0, f2, f3, hb2, hr0, hb3, nb2_r0, nr0_b2, nb3_r0, nr0_b3, nb3_b2, nb2_b3, List.length_map, strs, fuV, one_strs, hone, hcls, hone2, hcls2, upd_app, RR, seval]; rfl))
        have gb3 := hk43x b3 _ (by first | exact nb3_r0 | exact blk_ne hb3 hr0 (by decide) | (intro e; subst e; simp_all)) (by first | exact hb3 | exact upd_same _ _ _ | (simp only [f0, f2, f3, hb2, hr0, hb3, nb2_r0, nr0_b2, nb3_r0, nr0_b3, nb3_b2, nb2_b3, List.length_map, strs, fuV, one_strs, hone, hcls, hone2, hcls2, upd_app, RR, seval]; rfl))
        have hb2 := gb2; clear gb2
        have hb3 := gb3; clear gb3
        have hr0 := hn43x; clear hn43x hk43x
        simp only [emitF, markOf, EM, f0, f3, hb2, hr0, hb3, nb2_r0, nr0_b2, nb3_r0, nr0_b3, nb3_b2, nb2_b3, List.length_map, strs, fuV, one_strs, hone, hcls, hone2, hcls2, RR, seval]
        refine awpA_ownF (OwnL.nil 5 _) (by simp only [List.length_map, List.length_cons, List.length_nil]; omega) (fun b e => by first | trivial | (repeat' apply And.intro) <;> (intro c; subst c; first | exact ho3 _ _ e | exact (OwnL.nil 5 _).nb' hb2 (by decide) e | exact (OwnL.nil 5 _).nb' hr0 (by decide) e)) fun v11 M18 hown3' hk' hg' => ?_
        have ho3' := hg' b3 ho3 (by rw [hb3]; exact Option.some_ne_none _)
        simp only [emitF, markOf, EM, f0, f3, hb2, hr0, hb3, nb2_r0, nr0_b2, nb3_r0, nr0_b3, nb3_b2, nb2_b3, List.length_map, strs, fuV, one_strs, hone, hcls, hone2, hcls2, RR, seval]
        have gb2 := hk' b2 _ hb2 (by first | exact ((OwnL.nil 5 _)).nb' hb2 (by decide) | exact ho2 _ _ | assumption | (intro e; simp_all))
        have hb2 := gb2; clear gb2
        have gr0 := hk' r0 _ hr0 (by first | exact ((OwnL.nil 5 _)).nb' hr0 (by decide) | exact ho0 _ _ | assumption | (intro e; simp_all))
        have hr0 := gr0; clear gr0
        have gb3 := hk' b3 _ hb3 (by first | exact ((OwnL.nil 5 _)).nb' hb3 (by decide) | exact ho3 _ _ | assumption | (intro e; simp_all))
        have hb3 := gb3; clear gb3
        have hce := hown3'.cells; have hoe := hown3'.one1
        try simp only [emitF, markOf, EM, hce, hoe, Option.bind_some, List.drop, f0, f3, hb2, hr0, hb3, nb2_r0, nr0_b2, nb3_r0, nr0_b3, nb3_b2, nb2_b3, List.length_map, strs, fuV, one_strs, hone, hcls, hone2, hcls2, RR, seval]
        refine hK _ _ ?_; clear hK K
        have hm43 := funP_far ho43
        refine awp_seq ?_
        refine awp_name fun F19 M19 hfr hH => ?_
        have g0 := hfr 0
        have g2 := hfr 2
        have g3 := hfr 3
        have gb2 := hH b2
        have gr0 := hH r0
        have gb3 := hH b3
        try simp only [f0, f2, f3, hb2, hr0, hb3, nb2_r0, nr0_b2, nb3_r0, nr0_b3, nb3_b2, nb2_b3, List.length_map, strs, fuV, one_strs, hone, hcls, hone2, hcls2, RR, seval] at g0 g2 g3 gb2 gr0 gb3
        have hown3' := (hown3'.off ho3' _).same hH
        have f0 := g0; clear g0
        have f2 := g2; clear g2
        have f3 := g3; clear g3
        have hb2 := gb2; clear gb2
        have hr0 := gr0; clear gr0
        have hb3 := gb3; clear gb3
        clear hfr hH
        refine awp_block ?_
        refine awp_while [0, 2, 3] (T.length - m43) (fun k fr M => M b2 = M19 b2 ∧ (∃ (m : Nat) (fs : List Fu) (v : AV), k = T.length - m ∧ m43 ≤ m ∧ m ≤ T.length ∧ fs.length ≤ m ∧ ((funsP T fs m).bind fun fs m => .ok ⟨vs, ar, fs⟩ m) = res ∧ OwnL 5 v (fs.map Fu.row) M ∧ M b3 = some (.rows 3 [[.isl 1 (vs.map strRow), .isl 2 (ar.map Ar.row), v]]) ∧ M r0 = some (.rows 3 [[.isl 4 (T.map Tok.row), .int .i64 (m : Nat), .int .i64 (e : Nat)]]))) ⟨rfl, m43, [a43], _, rfl, Nat.le_refl _, by omega, by simp; omega, hres, hown3', hb3, hr0⟩ ?_
        rintro k F20 M20 ⟨gb2, m, fs, v3, rfl, hnm, hm, hfl, hres, hown3, hb3, hr0⟩ agx K2 hK2
        have f0 := (agx 0 rfl).trans f0
        have f2 := (agx 2 rfl).trans f2
        have f3 := (agx 3 rfl).trans f3
        have hb2 := gb2.trans hb2
        have ag2 := agree.refl [0, 2, 3] F20
        have e2_b2 := gb2; clear gb2
        clear agx
        have ho3 := hown3.offsz hb3 (by decide)
        have hone3 := hown3.one1
        have hcls3 := hown3.cells
        refine awp_seq ?_
        refine awp_seq_k fun K hK => ?_
        refine awp_region_draw2 (fun x => x ≠ b2 ∧ x ≠ r0 ∧ x ≠ b3) [(0, 3), (1, 3), (2, 3), (3, 1), (4, 3), (5, 3), (6, 3), (7, 1), (8, 3), (9, 3)] [] draws (by kernel_rfl) rfl rfl ?_
        simp only [emitF, markOf, EM, f0, hb2, hr0, hb3, nb2_r0, nr0_b2, nb3_r0, nr0_b3, nb3_b2, nb2_b3, List.length_map, strs, fuV, one_strs, hone, hcls, hone2, hcls2, hone3, hcls3, RR, seval]
        refine hK _ _ ?_; clear hK K
        refine awp_if _ rfl (fun hc => ?_) (fun hc => ?_)
        · have hw2 := hc; clear hc
          have hlt : m < T.length := by have := of_decide_eq_true hw2; omega
          rw [funsP_eq, if_pos hlt] at hres
          refine awp_skip ?_; try simp only [RR]
          refine awp_block ?_
          refine awp_name fun F21 M21 hfr hH => ?_
          have g0 := hfr 0
          have g2 := hfr 2
          have g3 := hfr 3
          have gb2 := hH b2
          have gr0 := hH r0
          have gb3 := hH b3
          try simp only [f0, f2, f3, hb2, hr0, hb3, nb2_r0, nr0_b2, nb3_r0, nr0_b3, nb3_b2, nb2_b3, List.length_map, strs, fuV, one_strs, hone, hcls, hone2, hcls2, hone3, hcls3, RR, seval] at g0 g2 g3 gb2 gr0 gb3
          have ag2 : agree [0, 2, 3] F20 F21 := agree.same hfr (by repeat (first | exact ag2 | refine agree.upd rfl ?_))
          have e2_b2 := (hH b2).trans (by first | exact e2_b2 | (simp only [nb2_r0, nr0_b2, nb3_r0, nr0_b3, nb3_b2, nb2_b3, upd_app, seval]; first | done | exact e2_b2))
          have hown3 := hown3.same hH
          have f0 := g0; clear g0
          have f2 := g2; clear g2
          have f3 := g3; clear g3
          have hb2 := gb2; clear gb2
          have hr0 := gr0; clear gr0
          have hb3 := gb3; clear gb3
          clear hfr hH
          refine awp_region_draw2 (fun x => x ≠ b3 ∧ x ≠ b2) [(0, 3), (1, 0), (2, 3), (3, 1), (4, 2), (5, 1), (6, 3)] [(7, 1)] draws (by kernel_rfl) rfl rfl ?_
          simp only [emitF, markOf, EM, f0, f3, hb2, hr0, hb3, nb2_r0, nr0_b2, nb3_r0, nr0_b3, nb3_b2, nb2_b3, List.length_map, strs, fuV, one_strs, hone, hcls, hone2, hcls2, hone3, hcls3, RR, seval]
          refine awpC_rd (fun_con r0 hT m e hm) (by first | exact hr0 | (simp only [f0, f2, f3, hb2, hr0, hb3, nb2_r0, nr0_b2, nb3_r0, nr0_b3, nb3_b2, nb2_b3, List.length_map, strs, fuV, one_strs, hone, hcls, hone2, hcls2, hone3, hcls3, upd_app, RR, seval]; done)) (by first | trivial | (repeat' apply And.intro) <;> assumption) ?_ ?_
          · intro n60x H60x hbd
            simp only [hbd, PR.bind_bad] at hres
            subst hres
            simp only [thenQ_pan, blockQ_pan, bodyQ_pan, rpost]
          intro a60 m60 M22 ho60 hn60x hk60x
          simp only [ho60, PR.bind_ok] at hres
          have gb2 := hk60x b2 _ (by first | exact nb2_r0 | exact blk_ne hb2 hr0 (by decide) | (intro e; subst e; simp_all)) (by first | exact hb2 | exact upd_same _ _ _ | (simp only [f0, f2, f3, hb2, hr0, hb3, nb2_r0, nr0_b2, nb3_r0, nr0_b3, nb3_b2, nb2_b3, List.length_map, strs, fuV, one_strs, hone, hcls, hone2, hcls2, hone3, hcls3, upd_app, RR, seval]; rfl))
          have e2_b2 := (gb2.trans hb2.symm).trans e2_b2
          have gb3 := hk60x b3 _ (by first | exact nb3_r0 | exact blk_ne hb3 hr0 (by decide) | (intro e; subst e; simp_all)) (by first | exact hb3 | exact upd_same _ _ _ | (simp only [f0, f2, f3, hb2, hr0, hb3, nb2_r0, nr0_b2, nb3_r0, nr0_b3, nb3_b2, nb2_b3, List.length_map, strs, fuV, one_strs, hone, hcls, hone2, hcls2, hone3, hcls3, upd_app, RR, seval]; rfl))
          have hb2 := gb2; clear gb2
          have hb3 := gb3; clear gb3
          have hown3 := OwnL.kp hown3 hr0 (by decide) hk60x
          have hr0 := hn60x; clear hn60x hk60x
          simp only [emitF, markOf, EM, f0, f3, hb2, hr0, hb3, nb2_r0, nr0_b2, nb3_r0, nr0_b3, nb3_b2, nb2_b3, List.length_map, strs, fuV, one_strs, hone, hcls, hone2, hcls2, hone3, hcls3, RR, seval]
          refine awpA_ownF hown3 (by simp only [List.length_map, List.length_cons, List.length_nil]; omega) (fun b e => by first | trivial | (repeat' apply And.intro) <;> (intro c; subst c; first | exact ho3 _ _ e | exact hown3.nb' hb2 (by decide) e | exact hown3.nb' hr0 (by decide) e)) fun v13 M23 hown3' hk' hg' => ?_
          have ho3' := hg' b3 ho3 (by rw [hb3]; exact Option.some_ne_none _)
          simp only [emitF, markOf, EM, f0, f3, hb2, hr0, hb3, nb2_r0, nr0_b2, nb3_r0, nr0_b3, nb3_b2, nb2_b3, List.length_map, strs, fuV, one_strs, hone, hcls, hone2, hcls2, hone3, hcls3, RR, seval]
          have gb2 := hk' b2 _ hb2 (by first | exact (hown3).nb' hb2 (by decide) | exact ho2 _ _ | assumption | (intro e; simp_all))
          have e2_b2 := (gb2.trans hb2.symm).trans e2_b2
          have hb2 := gb2; clear gb2
          have gr0 := hk' r0 _ hr0 (by first | exact (hown3).nb' hr0 (by decide) | exact ho0 _ _ | assumption | (intro e; simp_all))
          have hr0 := gr0; clear gr0
          have gb3 := hk' b3 _ hb3 (by first | exact (hown3).nb' hb3 (by decide) | exact ho3 _ _ | assumption | (intro e; simp_all))
          have hb3 := gb3; clear gb3
          have hce := hown3'.cells; have hoe := hown3'.one1
          try simp only [emitF, markOf, EM, hce, hoe, Option.bind_some, List.drop, f0, f3, hb2, hr0, hb3, nb2_r0, nr0_b2, nb3_r0, nr0_b3, nb3_b2, nb2_b3, List.length_map, strs, fuV, one_strs, hone, hcls, hone2, hcls2, hone3, hcls3, RR, seval]
          have hm60 := funP_far ho60
          try rw [IntWalk.i64_in _ (by omega)]
          refine hK2 (T.length - m60) _ _ (by omega) ⟨(by first | exact e2_b2 | (simp only [nb2_r0, nr0_b2, nb3_r0, nr0_b3, nb3_b2, nb2_b3, upd_app, seval]; first | done | exact e2_b2)), m60, fs ++ [a60], _, rfl, by omega, by omega, by simp only [List.length_append, List.length_cons, List.length_nil]; omega, hres, by rw [List.map_append]; exact hown3'.off ho3' _, upd_same _ _ _, by first | exact hr0 | (simp only [f0, f2, f3, hb2, hr0, hb3, nb2_r0, nr0_b2, nb3_r0, nr0_b3, nb3_b2, nb2_b3, List.length_map, strs, fuV, one_strs, hone, hcls, hone2, hcls2, hone3, hcls3, upd_app, RR, seval]; done)⟩ (by repeat (first | exact ag2 | refine agree.upd rfl ?_))
        · have hw2 := hc; clear hc
          have hlt : ¬ m < T.length := by have := of_decide_eq_false hw2; omega
          rw [funsP_eq, if_neg hlt, PR.bind_ok] at hres
          refine awp_exit ?_; simp only [RR, seval]
          refine awp_name fun F24 M24 hfr hH => ?_
          have g2 := hfr 2
          have g3 := hfr 3
          have gb2 := hH b2
          have gr0 := hH r0
          have gb3 := hH b3
          try simp only [f0, f2, f3, hb2, hr0, hb3, nb2_r0, nr0_b2, nb3_r0, nr0_b3, nb3_b2, nb2_b3, List.length_map, strs, fuV, one_strs, hone, hcls, hone2, hcls2, hone3, hcls3, RR, seval] at g2 g3 gb2 gr0 gb3
          have hown3 := hown3.same hH
          have f2 := g2; clear g2
          have f3 := g3; clear g3
          have hb2 := gb2; clear gb2
          have hr0 := gr0; clear gr0
          have hb3 := gb3; clear gb3
          clear hfr hH
          have h0 : M24 b3 = some (.rows 3 [[.isl 1 (vs.map strRow), .isl 2 (ar.map Ar.row)] ++ v3 :: []]) := hb3
          refine awp_sealP hown3 h0 (fun x hx => by simp only [List.mem_cons, List.not_mem_nil, or_false] at hx; rcases hx with rfl | rfl <;> exact noO_flat rfl) (fun x hx => by cases hx) ho3 fun F9a M9a hfF hb3' hbF => ?_
          have f2 := (hfF 2 (by rw [f2]; exact noO_flat rfl)).trans f2
          have f3 := (hfF 3 (by rw [f3]; exact noO_flat rfl)).trans f3
          have hr0 := hbF r0 _ _ nr0_b3 (hown3.offsz hr0 (by decide)) (fun r hr x hx => by simp only [List.mem_singleton] at hr; subst hr; simp only [List.mem_cons, List.not_mem_nil, or_false] at hx; rcases hx with rfl | rfl | rfl <;> exact noO_flat rfl) hr0
          have hb2 := hbF b2 _ _ nb2_b3 (hown3.offsz hb2 (by decide)) (fun r hr x hx => by simp only [List.mem_singleton] at hr; subst hr; simp only [List.mem_cons, List.not_mem_nil, or_false] at hx; rcases hx with rfl | rfl | rfl <;> exact noO_flat rfl) hb2
          have hb3 : M9a b3 = some (.rows 3 [[.isl 1 (vs.map strRow), .isl 2 (ar.map Ar.row), .isl 5 (fs.map Fu.row)]]) := hb3'
          clear hb3' h0 hfF hbF
          refine awp_seq_k fun K hK => ?_
          refine awp_region rfl ?_
          simp only [f2, f3, hb2, hr0, hb3, nb2_r0, nr0_b2, nb3_r0, nr0_b3, nb3_b2, nb2_b3, List.length_map, strs, fuV, one_strs, hone, hcls, hone2, hcls2, hone3, hcls3, RR, seval]
          refine hK _ _ ?_; clear hK K
          refine awp_ret ?_; simp only [bodyQ, aresult, ares, f2, f3, hb2, hr0, hb3, nb2_r0, nr0_b2, nb3_r0, nr0_b3, nb3_b2, nb2_b3, List.length_map, strs, fuV, one_strs, hone, hcls, hone2, hcls2, hone3, hcls3, RR, seval]
          refine rgives (by first | exact hr0 | (simp only [f2, f3, hb2, hr0, hb3, nb2_r0, nr0_b2, nb3_r0, nr0_b3, nb3_b2, nb2_b3, List.length_map, strs, fuV, one_strs, hone, hcls, hone2, hcls2, hone3, hcls3, upd_app, RR, seval]; done)) hres.symm ?_
          exact Sub.refl _
  rintro F25 M25 ⟨agx, gb2, m', vs', ar', v1', v2', hmm, hm', hvl', hal', hres, hown, hown2, hb3, hr0⟩
  have f0 := (agx 0 rfl).trans f0
  have f2 := (agx 2 rfl).trans f2
  have f3 := (agx 3 rfl).trans f3
  have hb2 := gb2.trans hb2
  have ag0 : agree [0, 2, 3] F2 F25 := agree.sub agx rfl ag0
  have e0_b2 := gb2.trans e0_b2
  clear agx
  clear gb2
  simp only [RR, seval]
  refine awp_region rfl ?_
  simp only [f0, hb2, hr0, hb3, nb2_r0, nr0_b2, nb3_r0, nr0_b3, nb3_b2, nb2_b3, List.length_map, strs, fuV, one_strs, hone, hcls, hone2, hcls2, RR, seval]
  refine awpB_sealed ?_
  simp only [f0, hb2, hr0, hb3, nb2_r0, nr0_b2, nb3_r0, nr0_b3, nb3_b2, nb2_b3, List.length_map, strs, fuV, one_strs, hone, hcls, hone2, hcls2, RR, seval]
  refine awpC_rd (must_con r0 hT m' e hm' [59] (by decide)) (by first | exact hr0 | (simp only [f0, f2, f3, hb2, hr0, hb3, nb2_r0, nr0_b2, nb3_r0, nr0_b3, nb3_b2, nb2_b3, List.length_map, strs, fuV, one_strs, hone, hcls, hone2, hcls2, upd_app, RR, seval]; done)) trivial ?_ ?_
  · intro n39x H39x hbd
    simp only [hbd, PR.bind_bad] at hres
    subst hres
    simp only [thenQ_pan, blockQ_pan, bodyQ_pan, rpost]
  intro a39 m39 M26 ho39 hn39x hk39x
  simp only [ho39, PR.bind_ok] at hres
  have gb2 := hk39x b2 _ (by first | exact nb2_r0 | exact blk_ne hb2 hr0 (by decide) | (intro e; subst e; simp_all)) (by first | exact hb2 | exact upd_same _ _ _ | (simp only [f0, f2, f3, hb2, hr0, hb3, nb2_r0, nr0_b2, nb3_r0, nr0_b3, nb3_b2, nb2_b3, List.length_map, strs, fuV, one_strs, hone, hcls, hone2, hcls2, upd_app, RR, seval]; rfl))
  have e0_b2 := (gb2.trans hb2.symm).trans e0_b2
  have gb3 := hk39x b3 _ (by first | exact nb3_r0 | exact blk_ne hb3 hr0 (by decide) | (intro e; subst e; simp_all)) (by first | exact hb3 | exact upd_same _ _ _ | (simp only [f0, f2, f3, hb2, hr0, hb3, nb2_r0, nr0_b2, nb3_r0, nr0_b3, nb3_b2, nb2_b3, List.length_map, strs, fuV, one_strs, hone, hcls, hone2, hcls2, upd_app, RR, seval]; rfl))
  have hb2 := gb2; clear gb2
  have hb3 := gb3; clear gb3
  have hown := OwnL.kp hown hr0 (by decide) hk39x
  have hown2 := OwnL.kp hown2 hr0 (by decide) hk39x
  have hr0 := hn39x; clear hn39x hk39x
  simp only [f0, hb2, hr0, hb3, nb2_r0, nr0_b2, nb3_r0, nr0_b3, nb3_b2, nb2_b3, List.length_map, strs, fuV, one_strs, hone, hcls, hone2, hcls2, RR, seval]
  have hm39 := must_ok ho39 (by decide)
  try rw [IntWalk.i64_in _ (by omega)]
  refine hK0 (T.length - m39) _ _ (by omega) ⟨(by first | exact e0_b2 | (simp only [nb2_r0, nr0_b2, nb3_r0, nr0_b3, nb3_b2, nb2_b3, upd_app, seval]; first | done | exact e0_b2)), m39, vs', ar', v1', v2', rfl, by omega, by omega, by omega, by omega, hres, hown, hown2, hb3, hr0⟩ (by repeat (first | exact ag0 | refine agree.upd rfl ?_))
end Go.Proofs.YtlpeikljipknoaaDoor
