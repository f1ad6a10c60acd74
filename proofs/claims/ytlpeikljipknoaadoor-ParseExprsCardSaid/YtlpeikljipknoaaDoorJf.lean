/- Chapter 15, the judge's: a program. -/
import Derived.Test.YtlpeikljipknoaaDoorJe
import Derived.Test.YtlpeikljipknoaaDoorRc
set_option linter.unusedSimpArgs false
set_option linter.unusedVariables false
set_option maxRecDepth 10000
namespace Go.Al
theorem OwnL.offnone {sz : Nat} {v : AV} {rows : List (List AV)} {H : Hp} {b : Nat} (h : OwnL sz v rows H) (hb : H b = none) : Al.off v b := fun s n e => by
  rcases h with ⟨rfl, _⟩ | ⟨c, rfl, hc⟩
  · cases e
  · cases e
    rw [hb] at hc; cases hc
end Go.Al
namespace Go.Proofs.YtlpeikljipknoaaDoor
open Go.Al
theorem jtok_num {β : Type} {T : List Tok} (hT : Sz T) {w w' : Bool} {n n' : Nat} {a : Tok} {k : Int} (hj : stW w' n' (PR.ok a n') = stW w n (takeI T k n)) {G : Int → PR β} {res : PR β} (h : stW w' n' (G a.num) = res) : stW w' n' (G (IntKind.wrap .i64 a.num)) = res := by
  cases w' with
  | true => exact h
  | false =>
    cases w with
    | true => cases hj
    | false =>
      rw [stW_f, stW_f] at hj
      have ht := take_ok hj.symm
      have hnu := (hT.tok _ (List.mem_of_getElem? ht.2.2.1)).1
      rw [IntWalk.i64_in _ (by have := hnu.1; have := hnu.2; omega)]
      exact h
def progQ (T : List Tok) (vs : List Str) (ar : List Ar) (fs : List Fu) (m : Nat) : PR Pg := (funQ T m).bind fun g m => (funsP T (fs ++ [g]) m).bind fun fs m => .ok ⟨vs, ar, fs⟩ m
theorem progK_q (T : List Tok) (vs : List Str) (ar : List Ar) (m : Nat) : progK T (vs, ar) m = (mustI T wFunc m).bind fun _ m => progQ T vs ar [] m := by
  unfold progK
  rw [funP_q, bind_assoc]
  simp only [progQ, List.nil_append]
theorem funs_q (T : List Tok) (vs : List Str) (ar : List Ar) (fs : List Fu) (m : Nat) (h : m < T.length) : ((funsP T fs m).bind fun fs m => (.ok ⟨vs, ar, fs⟩ m : PR Pg)) = (mustI T wFunc m).bind fun _ m => progQ T vs ar fs m := by
  rw [funsP_eq, if_pos h, funP_q, bind_assoc, bind_assoc]
  simp only [progQ]
set_option maxHeartbeats 8000000 in
theorem jprog_con (r0 : Nat) {T : List Tok} (hT : Sz T) (n : Nat) (w : Bool) (hn : n ≤ T.length) : JCon 27 [] r0 T n w pgV (stW w n (progP T n)) := by
  unfold JCon
  generalize hres : stW w n (progP T n) = res
  rw [progP_eq] at hres
  have hlen := hT.len
  have hr0 := jdH_at r0 T n w
  refine con_of 78 [.cell 2 27] Tryd.func27 rfl rfl rfl rfl ?_
  refine awp_seq_k fun K hK => ?_
  refine awp_region rfl ?_
  simp only [hr0, List.length_map, strs, fuV, one_strs, RR, seval]
  refine awpN_intro fun b2 hn2 => ?_
  have nb2_r0 : b2 ≠ r0 := fun e => by rw [e] at hn2; simp only [hr0, RR, seval, reduceCtorEq] at hn2
  have nr0_b2 : r0 ≠ b2 := fun e => nb2_r0 e.symm
  simp only [hr0, nb2_r0, nr0_b2, List.length_map, strs, fuV, one_strs, RR, seval]
  refine hK _ _ ?_; clear hK K
  refine awp_seq_k fun K hK => ?_
  refine awp_region rfl ?_
  simp only [hr0, nb2_r0, nr0_b2, List.length_map, strs, fuV, one_strs, RR, seval]
  refine awpN_intro fun b3 hn3 => ?_
  have nb3_r0 : b3 ≠ r0 := fun e => by rw [e] at hn3; simp only [hr0, nb2_r0, nr0_b2, RR, seval, reduceCtorEq] at hn3
  have nr0_b3 : r0 ≠ b3 := fun e => nb3_r0 e.symm
  have nb3_b2 : b3 ≠ b2 := fun e => by rw [e] at hn3; simp only [nb2_r0, nr0_b2, RR, seval, reduceCtorEq] at hn3
  have nb2_b3 : b2 ≠ b3 := fun e => nb3_b2 e.symm
  simp only [hr0, nb2_r0, nr0_b2, nb3_r0, nr0_b3, nb3_b2, nb2_b3, List.length_map, strs, fuV, one_strs, RR, seval]
  refine hK _ _ ?_; clear hK K
  refine awp_seq ?_
  refine awp_name fun F1 M1 hfr hH => ?_
  have g0 := hfr 0
  have g2 := hfr 2
  have g3 := hfr 3
  have gr0 := hH r0
  have gb2 := hH b2
  have gb3 := hH b3
  try simp only [hr0, nb2_r0, nr0_b2, nb3_r0, nr0_b3, nb3_b2, nb2_b3, List.length_map, strs, fuV, one_strs, RR, seval] at g0 g2 g3 gr0 gb2 gb3
  have f0 := g0; clear g0
  have f2 := g2; clear g2
  have f3 := g3; clear g3
  have hr0 := gr0; clear gr0
  have hb2 := gb2; clear gb2
  have hb3 := gb3; clear gb3
  clear hfr hH
  refine awp_block ?_
  refine awp_while [0, 2, 3] (T.length - n) (fun k fr M => M b2 = M1 b2 ∧ (∃ (m : Nat) (w' : Bool) (vs : List Str) (ar : List Ar) (v1 v2 : AV), k = T.length - m ∧ n ≤ m ∧ m ≤ T.length ∧ vs.length ≤ 1000001 * (m + 1) ∧ ar.length ≤ m ∧ stW w' m ((headP T vs ar m).bind (progK T)) = res ∧ OwnL 1 v1 (vs.map strRow) M ∧ OwnL 2 v2 (ar.map Ar.row) M ∧ M b3 = some (.rows 3 [[v1, v2, .nsl]]) ∧ M r0 = some (.rows 3 [[.isl 4 (T.map Tok.row), .int .i64 (m : Nat), .bool w']]))) ⟨rfl, n, w, [], [], .nsl, .nsl, rfl, Nat.le_refl _, hn, Nat.zero_le _, Nat.zero_le _, hres, .inl ⟨rfl, rfl⟩, .inl ⟨rfl, rfl⟩, hb3, hr0⟩ ?_
  rintro k F2 M2 ⟨gb2, m, w', vs, ar, v1, v2, rfl, hnm, hm, hvl, hal, hres, hown, hown2, hb3, hr0⟩ agx K0 hK0
  have f0 := (agx 0 rfl).trans f0
  have f2 := (agx 2 rfl).trans f2
  have f3 := (agx 3 rfl).trans f3
  have hb2 := gb2.trans hb2
  have ag0 := agree.refl [0, 2, 3] F2
  have e0_b2 := gb2; clear gb2
  clear agx
  have ho3 := hown.offsz hb3 (by decide)
  have hof2 := hown2.offsz hb3 (by decide)
  have hone := hown.one1
  have hcls := hown.cells
  have hone2 := hown2.one1
  have hcls2 := hown2.cells
  refine awp_seq ?_
  refine awp_seq_k fun K hK => ?_
  refine awp_region rfl ?_
  simp only [f0, hb2, hr0, hb3, nb2_r0, nr0_b2, nb3_r0, nr0_b3, nb3_b2, nb2_b3, List.length_map, strs, fuV, one_strs, hone, hcls, hone2, hcls2, RR, seval]
  refine hK _ _ ?_; clear hK K
  refine awp_if _ rfl (fun hc => ?_) (fun hc => ?_)
  · have hw0 := hc; clear hc
    rw [headP_eq] at hres
    simp only [bind_ite, bind_assoc, PR.bind_ok] at hres
    refine awp_skip ?_; try simp only [RR]
    refine awp_block ?_
    refine awp_seq ?_
    refine awp_seq_k fun K hK => ?_
    refine awp_region rfl ?_
    simp only [f0, hb2, hr0, hb3, nb2_r0, nr0_b2, nb3_r0, nr0_b3, nb3_b2, nb2_b3, List.length_map, strs, fuV, one_strs, hone, hcls, hone2, hcls2, RR, seval]
    refine awpC_jo (is_con r0 hT m w' hm wVar (by decide)) (by first | exact hr0 | (simp only [f0, f2, f3, hb2, hr0, hb3, nb2_r0, nr0_b2, nb3_r0, nr0_b3, nb3_b2, nb2_b3, List.length_map, strs, fuV, one_strs, hone, hcls, hone2, hcls2, upd_app, RR, seval]; done)) trivial fun M3 hn12x hk12x => ?_
    have gb2 := hk12x b2 _ (by first | exact nb2_r0 | exact blk_ne hb2 hr0 (by decide) | (intro e; subst e; simp_all)) (by first | exact hb2 | exact upd_same _ _ _ | (simp only [f0, f2, f3, hb2, hr0, hb3, nb2_r0, nr0_b2, nb3_r0, nr0_b3, nb3_b2, nb2_b3, List.length_map, strs, fuV, one_strs, hone, hcls, hone2, hcls2, upd_app, RR, seval]; rfl))
    have e0_b2 := (gb2.trans hb2.symm).trans e0_b2
    have gb3 := hk12x b3 _ (by first | exact nb3_r0 | exact blk_ne hb3 hr0 (by decide) | (intro e; subst e; simp_all)) (by first | exact hb3 | exact upd_same _ _ _ | (simp only [f0, f2, f3, hb2, hr0, hb3, nb2_r0, nr0_b2, nb3_r0, nr0_b3, nb3_b2, nb2_b3, List.length_map, strs, fuV, one_strs, hone, hcls, hone2, hcls2, upd_app, RR, seval]; rfl))
    have hb2 := gb2; clear gb2
    have hb3 := gb3; clear gb3
    have hown := OwnL.kp hown hr0 (by decide) hk12x
    have hown2 := OwnL.kp hown2 hr0 (by decide) hk12x
    have hr0 := hn12x; clear hn12x hk12x
    simp only [f0, hb2, hr0, hb3, nb2_r0, nr0_b2, nb3_r0, nr0_b3, nb3_b2, nb2_b3, List.length_map, strs, fuV, one_strs, hone, hcls, hone2, hcls2, RR, seval]
    refine hK _ _ ?_; clear hK K
    refine awp_if _ rfl (fun hc3 => ?_) (fun hc3 => ?_)
    · have hres := is_t hc3 hres
      rw [if_pos hc3] at hr0
      have hlt3 := isB_lt hc3 (by first | assumption | decide)
      refine awp_name fun F4 M4 hfr hH => ?_
      have g0 := hfr 0
      have g2 := hfr 2
      have g3 := hfr 3
      have gb2 := hH b2
      have gr0 := hH r0
      have gb3 := hH b3
      try simp only [f0, f2, f3, hb2, hr0, hb3, nb2_r0, nr0_b2, nb3_r0, nr0_b3, nb3_b2, nb2_b3, List.length_map, strs, fuV, one_strs, hone, hcls, hone2, hcls2, RR, seval] at g0 g2 g3 gb2 gr0 gb3
      have ag0 : agree [0, 2, 3] F2 F4 := agree.same hfr (by repeat (first | exact ag0 | refine agree.upd rfl ?_))
      have e0_b2 := (hH b2).trans (by first | exact e0_b2 | (simp only [nb2_r0, nr0_b2, nb3_r0, nr0_b3, nb3_b2, nb2_b3, upd_app, seval]; first | done | exact e0_b2))
      have hown := hown.same hH
      have hown2 := hown2.same hH
      have f0 := g0; clear g0
      have f2 := g2; clear g2
      have f3 := g3; clear g3
      have hb2 := gb2; clear gb2
      have hr0 := gr0; clear gr0
      have hb3 := gb3; clear gb3
      clear hfr hH
      refine awp_seq_k fun K hK => ?_
      refine awp_region_draw2 (fun x => x ≠ b3 ∧ x ≠ b2) [(0, 3), (1, 0), (2, 3), (3, 1), (4, 1), (5, 3)] [(6, 1)] draws (by kernel_rfl) rfl rfl ?_
      simp only [emitF, markOf, EM, f0, f3, hb2, hr0, hb3, nb2_r0, nr0_b2, nb3_r0, nr0_b3, nb3_b2, nb2_b3, List.length_map, strs, fuV, one_strs, hone, hcls, hone2, hcls2, RR, seval]
      refine awpC_jg (jnames_conG r0 hT (m + 1) w' (by omega)) (by first | exact hr0 | (simp only [f0, f2, f3, hb2, hr0, hb3, nb2_r0, nr0_b2, nb3_r0, nr0_b3, nb3_b2, nb2_b3, List.length_map, strs, fuV, one_strs, hone, hcls, hone2, hcls2, upd_app, RR, seval]; done)) (by first | trivial | (repeat' apply And.intro) <;> assumption) fun a16 m16 w16 M5 hj16 hle16 hlt16 hg16 hn16x hk16x => ?_
      have hres := stW_step hres hj16
      have gb2 := hk16x b2 _ (by first | exact nb2_r0 | exact blk_ne hb2 hr0 (by decide) | (intro e; subst e; simp_all)) (by first | exact hb2 | exact upd_same _ _ _ | (simp only [f0, f2, f3, hb2, hr0, hb3, nb2_r0, nr0_b2, nb3_r0, nr0_b3, nb3_b2, nb2_b3, List.length_map, strs, fuV, one_strs, hone, hcls, hone2, hcls2, upd_app, RR, seval]; rfl))
      have e0_b2 := (gb2.trans hb2.symm).trans e0_b2
      have gb3 := hk16x b3 _ (by first | exact nb3_r0 | exact blk_ne hb3 hr0 (by decide) | (intro e; subst e; simp_all)) (by first | exact hb3 | exact upd_same _ _ _ | (simp only [f0, f2, f3, hb2, hr0, hb3, nb2_r0, nr0_b2, nb3_r0, nr0_b3, nb3_b2, nb2_b3, List.length_map, strs, fuV, one_strs, hone, hcls, hone2, hcls2, upd_app, RR, seval]; rfl))
      have hb2 := gb2; clear gb2
      have hb3 := gb3; clear gb3
      have hown := OwnL.kp hown hr0 (by decide) hk16x
      have hown2 := OwnL.kp hown2 hr0 (by decide) hk16x
      have hr0 := hn16x; clear hn16x hk16x
      simp only [emitF, markOf, EM, f0, f3, hb2, hr0, hb3, nb2_r0, nr0_b2, nb3_r0, nr0_b3, nb3_b2, nb2_b3, List.length_map, strs, fuV, one_strs, hone, hcls, hone2, hcls2, RR, seval]
      refine awpA_ownF hown (by simp only [List.length_map, List.length_cons, List.length_nil]; omega) (fun b e => by first | trivial | (repeat' apply And.intro) <;> (intro c; subst c; first | exact ho3 _ _ e | exact hown.nb' hb2 (by decide) e | exact hown.nb' hr0 (by decide) e)) fun v4 M6 hown' hk' hg' => ?_
      have ho3' := hg' b3 ho3 (by rw [hb3]; exact Option.some_ne_none _)
      simp only [emitF, markOf, EM, f0, f3, hb2, hr0, hb3, nb2_r0, nr0_b2, nb3_r0, nr0_b3, nb3_b2, nb2_b3, List.length_map, strs, fuV, one_strs, hone, hcls, hone2, hcls2, RR, seval]
      have gb2 := hk' b2 _ hb2 (by first | exact (hown).nb' hb2 (by decide) | exact ho2 _ _ | assumption | (intro e; simp_all))
      have e0_b2 := (gb2.trans hb2.symm).trans e0_b2
      have hb2 := gb2; clear gb2
      have gr0 := hk' r0 _ hr0 (by first | exact (hown).nb' hr0 (by decide) | exact ho0 _ _ | assumption | (intro e; simp_all))
      have hr0 := gr0; clear gr0
      have gb3 := hk' b3 _ hb3 (by first | exact (hown).nb' hb3 (by decide) | exact ho3 _ _ | assumption | (intro e; simp_all))
      have hb3 := gb3; clear gb3
      have hce := hown'.cells; have hoe := hown'.one1
      try simp only [emitF, markOf, EM, hce, hoe, Option.bind_some, List.drop, f0, f3, hb2, hr0, hb3, nb2_r0, nr0_b2, nb3_r0, nr0_b3, nb3_b2, nb2_b3, List.length_map, strs, fuV, one_strs, hone, hcls, hone2, hcls2, RR, seval]
      refine hK _ _ ?_; clear hK K
      have hown2 := hown2.app2 hown (by decide) hk'
      refine awp_name fun F7 M7 hfr hH => ?_
      have g0 := hfr 0
      have g2 := hfr 2
      have g3 := hfr 3
      have gb2 := hH b2
      have gr0 := hH r0
      have gb3 := hH b3
      try simp only [f0, f2, f3, hb2, hr0, hb3, nb2_r0, nr0_b2, nb3_r0, nr0_b3, nb3_b2, nb2_b3, List.length_map, strs, fuV, one_strs, hone, hcls, hone2, hcls2, RR, seval] at g0 g2 g3 gb2 gr0 gb3
      have ag0 : agree [0, 2, 3] F2 F7 := agree.same hfr (by repeat (first | exact ag0 | refine agree.upd rfl ?_))
      have e0_b2 := (hH b2).trans (by first | exact e0_b2 | (simp only [nb2_r0, nr0_b2, nb3_r0, nr0_b3, nb3_b2, nb2_b3, upd_app, seval]; first | done | exact e0_b2))
      have hown' := (hown'.off ho3' _).same hH
      have hown2 := (hown2.off hof2 _).same hH
      have f0 := g0; clear g0
      have f2 := g2; clear g2
      have f3 := g3; clear g3
      have hb2 := gb2; clear gb2
      have hr0 := gr0; clear gr0
      have hb3 := gb3; clear gb3
      clear hfr hH
      refine awp_seq_k fun K hK => ?_
      refine awp_region rfl ?_
      simp only [f0, hb2, hr0, hb3, nb2_r0, nr0_b2, nb3_r0, nr0_b3, nb3_b2, nb2_b3, List.length_map, strs, fuV, one_strs, hone, hcls, hone2, hcls2, RR, seval]
      refine awpC_jd (jmust_con r0 hT m16 w16 hlt16 [59] (by decide)) (by first | exact hr0 | (simp only [f0, f2, f3, hb2, hr0, hb3, nb2_r0, nr0_b2, nb3_r0, nr0_b3, nb3_b2, nb2_b3, List.length_map, strs, fuV, one_strs, hone, hcls, hone2, hcls2, upd_app, RR, seval]; done)) trivial fun a20 m20 w20 M8 hj20 hle20 hlt20 hn20x hk20x => ?_
      have hres := stW_step hres hj20
      have gb2 := hk20x b2 _ (by first | exact nb2_r0 | exact blk_ne hb2 hr0 (by decide) | (intro e; subst e; simp_all)) (by first | exact hb2 | exact upd_same _ _ _ | (simp only [f0, f2, f3, hb2, hr0, hb3, nb2_r0, nr0_b2, nb3_r0, nr0_b3, nb3_b2, nb2_b3, List.length_map, strs, fuV, one_strs, hone, hcls, hone2, hcls2, upd_app, RR, seval]; rfl))
      have e0_b2 := (gb2.trans hb2.symm).trans e0_b2
      have gb3 := hk20x b3 _ (by first | exact nb3_r0 | exact blk_ne hb3 hr0 (by decide) | (intro e; subst e; simp_all)) (by first | exact hb3 | exact upd_same _ _ _ | (simp only [f0, f2, f3, hb2, hr0, hb3, nb2_r0, nr0_b2, nb3_r0, nr0_b3, nb3_b2, nb2_b3, List.length_map, strs, fuV, one_strs, hone, hcls, hone2, hcls2, upd_app, RR, seval]; rfl))
      have hb2 := gb2; clear gb2
      have hb3 := gb3; clear gb3
      have hown' := OwnL.kp hown' hr0 (by decide) hk20x
      have hown2 := OwnL.kp hown2 hr0 (by decide) hk20x
      have hr0 := hn20x; clear hn20x hk20x
      simp only [f0, hb2, hr0, hb3, nb2_r0, nr0_b2, nb3_r0, nr0_b3, nb3_b2, nb2_b3, List.length_map, strs, fuV, one_strs, hone, hcls, hone2, hcls2, RR, seval]
      refine hK _ _ ?_; clear hK K
      obtain ⟨mz, hmz⟩ : ∃ mz : Nat, mz = m20 := ⟨_, rfl⟩
      refine awp_exit ?_; simp only [RR, seval]
      try rw [IntWalk.i64_in _ (by omega)]
      refine hK0 (T.length - mz) _ _ (by omega) ⟨(by first | exact e0_b2 | (simp only [nb2_r0, nr0_b2, nb3_r0, nr0_b3, nb3_b2, nb2_b3, upd_app, seval]; first | done | exact e0_b2)), ?_⟩ (by repeat (first | exact ag0 | refine agree.upd rfl ?_))
      first
        | (refine ⟨m20, w20, vs ++ a16, ar, _, v2, ?_, ?_, hlt20, ?_, ?_, ?_, ?_, hown2, hb3, hr0⟩; omega; omega; (simp only [List.length_append]; omega); omega; exact hres; (rw [List.map_append]; exact hown'))
        | (refine ⟨m35, w35, vs, ar ++ [⟨a24.text, IntKind.wrap .i64 a30.num⟩], v1, _, ?_, ?_, hlt35, ?_, ?_, ?_, hown.off ho1k _, ?_, upd_same _ _ _, ?_⟩; omega; omega; omega; (simp only [List.length_append, List.length_cons, List.length_nil]; omega); exact hres; (rw [List.map_append]; exact hown2'.off ho3' _); (simp only [f0, f2, f3, hb2, hr0, hb3, nb2_r0, nr0_b2, nb3_r0, nr0_b3, nb3_b2, nb2_b3, List.length_map, strs, fuV, one_strs, hone, hcls, hone2, hcls2, upd_app, RR, seval]; done))
    · have hres := is_f hc3 hres
      rw [if_neg (Bool.eq_false_iff.1 hc3)] at hr0
      refine awp_skip ?_; try simp only [RR]
      refine awp_seq ?_
      refine awp_seq_k fun K hK => ?_
      refine awp_region rfl ?_
      simp only [f0, hb2, hr0, hb3, nb2_r0, nr0_b2, nb3_r0, nr0_b3, nb3_b2, nb2_b3, List.length_map, strs, fuV, one_strs, hone, hcls, hone2, hcls2, RR, seval]
      refine awpC_jo (is_con r0 hT m w' hm wArray (by decide)) (by first | exact hr0 | (simp only [f0, f2, f3, hb2, hr0, hb3, nb2_r0, nr0_b2, nb3_r0, nr0_b3, nb3_b2, nb2_b3, List.length_map, strs, fuV, one_strs, hone, hcls, hone2, hcls2, upd_app, RR, seval]; done)) trivial fun M9 hn22x hk22x => ?_
      have gb2 := hk22x b2 _ (by first | exact nb2_r0 | exact blk_ne hb2 hr0 (by decide) | (intro e; subst e; simp_all)) (by first | exact hb2 | exact upd_same _ _ _ | (simp only [f0, f2, f3, hb2, hr0, hb3, nb2_r0, nr0_b2, nb3_r0, nr0_b3, nb3_b2, nb2_b3, List.length_map, strs, fuV, one_strs, hone, hcls, hone2, hcls2, upd_app, RR, seval]; rfl))
      have e0_b2 := (gb2.trans hb2.symm).trans e0_b2
      have gb3 := hk22x b3 _ (by first | exact nb3_r0 | exact blk_ne hb3 hr0 (by decide) | (intro e; subst e; simp_all)) (by first | exact hb3 | exact upd_same _ _ _ | (simp only [f0, f2, f3, hb2, hr0, hb3, nb2_r0, nr0_b2, nb3_r0, nr0_b3, nb3_b2, nb2_b3, List.length_map, strs, fuV, one_strs, hone, hcls, hone2, hcls2, upd_app, RR, seval]; rfl))
      have hb2 := gb2; clear gb2
      have hb3 := gb3; clear gb3
      have hown := OwnL.kp hown hr0 (by decide) hk22x
      have hown2 := OwnL.kp hown2 hr0 (by decide) hk22x
      have hr0 := hn22x; clear hn22x hk22x
      simp only [f0, hb2, hr0, hb3, nb2_r0, nr0_b2, nb3_r0, nr0_b3, nb3_b2, nb2_b3, List.length_map, strs, fuV, one_strs, hone, hcls, hone2, hcls2, RR, seval]
      refine hK _ _ ?_; clear hK K
      refine awp_if _ rfl (fun hc6 => ?_) (fun hc6 => ?_)
      · have hres := is_t hc6 hres
        rw [if_pos hc6] at hr0
        have hlt6 := isB_lt hc6 (by first | assumption | decide)
        refine awp_name fun F10 M10 hfr hH => ?_
        have g0 := hfr 0
        have g2 := hfr 2
        have g3 := hfr 3
        have gb2 := hH b2
        have gr0 := hH r0
        have gb3 := hH b3
        try simp only [f0, f2, f3, hb2, hr0, hb3, nb2_r0, nr0_b2, nb3_r0, nr0_b3, nb3_b2, nb2_b3, List.length_map, strs, fuV, one_strs, hone, hcls, hone2, hcls2, RR, seval] at g0 g2 g3 gb2 gr0 gb3
        have ag0 : agree [0, 2, 3] F2 F10 := agree.same hfr (by repeat (first | exact ag0 | refine agree.upd rfl ?_))
        have e0_b2 := (hH b2).trans (by first | exact e0_b2 | (simp only [nb2_r0, nr0_b2, nb3_r0, nr0_b3, nb3_b2, nb2_b3, upd_app, seval]; first | done | exact e0_b2))
        have hown := hown.same hH
        have hown2 := hown2.same hH
        have f0 := g0; clear g0
        have f2 := g2; clear g2
        have f3 := g3; clear g3
        have hb2 := gb2; clear gb2
        have hr0 := gr0; clear gr0
        have hb3 := gb3; clear gb3
        clear hfr hH
        refine awp_seq_k fun K hK => ?_
        refine awp_region rfl ?_
        simp only [f0, hb2, hr0, hb3, nb2_r0, nr0_b2, nb3_r0, nr0_b3, nb3_b2, nb2_b3, List.length_map, strs, fuV, one_strs, hone, hcls, hone2, hcls2, RR, seval]
        refine awpC_jd (token_con r0 hT (m + 1) w' (by omega) 1 (by decide)) (by first | exact hr0 | (simp only [f0, f2, f3, hb2, hr0, hb3, nb2_r0, nr0_b2, nb3_r0, nr0_b3, nb3_b2, nb2_b3, List.length_map, strs, fuV, one_strs, hone, hcls, hone2, hcls2, upd_app, RR, seval]; done)) trivial fun a24 m24 w24 M11 hj24 hle24 hlt24 hn24x hk24x => ?_
        have hres := stW_step hres hj24
        have gb2 := hk24x b2 _ (by first | exact nb2_r0 | exact blk_ne hb2 hr0 (by decide) | (intro e; subst e; simp_all)) (by first | exact hb2 | exact upd_same _ _ _ | (simp only [f0, f2, f3, hb2, hr0, hb3, nb2_r0, nr0_b2, nb3_r0, nr0_b3, nb3_b2, nb2_b3, List.length_map, strs, fuV, one_strs, hone, hcls, hone2, hcls2, upd_app, RR, seval]; rfl))
        have e0_b2 := (gb2.trans hb2.symm).trans e0_b2
        have gb3 := hk24x b3 _ (by first | exact nb3_r0 | exact blk_ne hb3 hr0 (by decide) | (intro e; subst e; simp_all)) (by first | exact hb3 | exact upd_same _ _ _ | (simp only [f0, f2, f3, hb2, hr0, hb3, nb2_r0, nr0_b2, nb3_r0, nr0_b3, nb3_b2, nb2_b3, List.length_map, strs, fuV, one_strs, hone, hcls, hone2, hcls2, upd_app, RR, seval]; rfl))
        have hb2 := gb2; clear gb2
        have hb3 := gb3; clear gb3
        have hown := OwnL.kp hown hr0 (by decide) hk24x
        have hown2 := OwnL.kp hown2 hr0 (by decide) hk24x
        have hr0 := hn24x; clear hn24x hk24x
        simp only [f0, hb2, hr0, hb3, nb2_r0, nr0_b2, nb3_r0, nr0_b3, nb3_b2, nb2_b3, List.length_map, strs, fuV, one_strs, hone, hcls, hone2, hcls2, RR, seval]
        refine awpN_intro fun b4 hn4 => ?_
        have nb4_b2 : b4 ≠ b2 := fun e => by rw [e] at hn4; simp only [hb2, nb2_r0, nr0_b2, nb3_r0, nr0_b3, nb3_b2, nb2_b3, RR, seval, reduceCtorEq] at hn4
        have nb2_b4 : b2 ≠ b4 := fun e => nb4_b2 e.symm
        have nb4_r0 : b4 ≠ r0 := fun e => by rw [e] at hn4; simp only [hr0, nb2_r0, nr0_b2, nb3_r0, nr0_b3, RR, seval, reduceCtorEq] at hn4
        have nr0_b4 : r0 ≠ b4 := fun e => nb4_r0 e.symm
        have nb4_b3 : b4 ≠ b3 := fun e => by rw [e] at hn4; simp only [hb3, nb2_r0, nr0_b2, nb3_r0, nr0_b3, nb3_b2, nb2_b3, RR, seval, reduceCtorEq] at hn4
        have nb3_b4 : b3 ≠ b4 := fun e => nb4_b3 e.symm
        simp only [f0, hb2, hr0, hb3, nb2_r0, nr0_b2, nb3_r0, nr0_b3, nb3_b2, nb2_b3, nb4_b2, nb2_b4, nb4_r0, nr0_b4, nb4_b3, nb3_b4, List.length_map, strs, fuV, one_strs, hone, hcls, hone2, hcls2, RR, seval]
        refine hK _ _ ?_; clear hK K
        have ho41 := hown.offnone hn4
        have ho4 := hown2.offnone hn4
        refine awp_name fun F12 M12 hfr hH => ?_
        have g0 := hfr 0
        have g2 := hfr 2
        have g3 := hfr 3
        have g4 := hfr 4
        have gb2 := hH b2
        have gr0 := hH r0
        have gb3 := hH b3
        have gb4 := hH b4
        try simp only [f0, f2, f3, hb2, hr0, hb3, nb2_r0, nr0_b2, nb3_r0, nr0_b3, nb3_b2, nb2_b3, nb4_b2, nb2_b4, nb4_r0, nr0_b4, nb4_b3, nb3_b4, List.length_map, strs, fuV, one_strs, hone, hcls, hone2, hcls2, RR, seval] at g0 g2 g3 g4 gb2 gr0 gb3 gb4
        have ag0 : agree [0, 2, 3] F2 F12 := agree.same hfr (by repeat (first | exact ag0 | refine agree.upd rfl ?_))
        have e0_b2 := (hH b2).trans (by first | exact e0_b2 | (simp only [nb2_r0, nr0_b2, nb3_r0, nr0_b3, nb3_b2, nb2_b3, nb4_b2, nb2_b4, nb4_r0, nr0_b4, nb4_b3, nb3_b4, upd_app, seval]; first | done | exact e0_b2))
        have hown := ((hown.off ho41 _).off ho41 _).same hH
        have hown2 := ((hown2.off ho4 _).off ho4 _).same hH
        have f0 := g0; clear g0
        have f2 := g2; clear g2
        have f3 := g3; clear g3
        have f4 := g4; clear g4
        have hb2 := gb2; clear gb2
        have hr0 := gr0; clear gr0
        have hb3 := gb3; clear gb3
        have hb4 := gb4; clear gb4
        clear hfr hH
        refine awp_seq_k fun K hK => ?_
        refine awp_region rfl ?_
        simp only [f0, hb2, hr0, hb3, hb4, nb2_r0, nr0_b2, nb3_r0, nr0_b3, nb3_b2, nb2_b3, nb4_b2, nb2_b4, nb4_r0, nr0_b4, nb4_b3, nb3_b4, List.length_map, strs, fuV, one_strs, hone, hcls, hone2, hcls2, RR, seval]
        refine awpC_jd (jmust_con r0 hT m24 w24 hlt24 [91] (by decide)) (by first | exact hr0 | (simp only [f0, f2, f3, f4, hb2, hr0, hb3, hb4, nb2_r0, nr0_b2, nb3_r0, nr0_b3, nb3_b2, nb2_b3, nb4_b2, nb2_b4, nb4_r0, nr0_b4, nb4_b3, nb3_b4, List.length_map, strs, fuV, one_strs, hone, hcls, hone2, hcls2, upd_app, RR, seval]; done)) trivial fun a28 m28 w28 M13 hj28 hle28 hlt28 hn28x hk28x => ?_
        have hres := stW_step hres hj28
        have gb2 := hk28x b2 _ (by first | exact nb2_r0 | exact blk_ne hb2 hr0 (by decide) | (intro e; subst e; simp_all)) (by first | exact hb2 | exact upd_same _ _ _ | (simp only [f0, f2, f3, f4, hb2, hr0, hb3, hb4, nb2_r0, nr0_b2, nb3_r0, nr0_b3, nb3_b2, nb2_b3, nb4_b2, nb2_b4, nb4_r0, nr0_b4, nb4_b3, nb3_b4, List.length_map, strs, fuV, one_strs, hone, hcls, hone2, hcls2, upd_app, RR, seval]; rfl))
        have e0_b2 := (gb2.trans hb2.symm).trans e0_b2
        have gb3 := hk28x b3 _ (by first | exact nb3_r0 | exact blk_ne hb3 hr0 (by decide) | (intro e; subst e; simp_all)) (by first | exact hb3 | exact upd_same _ _ _ | (simp only [f0, f2, f3, f4, hb2, hr0, hb3, hb4, nb2_r0, nr0_b2, nb3_r0, nr0_b3, nb3_b2, nb2_b3, nb4_b2, nb2_b4, nb4_r0, nr0_b4, nb4_b3, nb3_b4, List.length_map, strs, fuV, one_strs, hone, hcls, hone2, hcls2, upd_app, RR, seval]; rfl))
        have gb4 := hk28x b4 _ (by first | exact nb4_r0 | exact blk_ne hb4 hr0 (by decide) | (intro e; subst e; simp_all)) (by first | exact hb4 | exact upd_same _ _ _ | (simp only [f0, f2, f3, f4, hb2, hr0, hb3, hb4, nb2_r0, nr0_b2, nb3_r0, nr0_b3, nb3_b2, nb2_b3, nb4_b2, nb2_b4, nb4_r0, nr0_b4, nb4_b3, nb3_b4, List.length_map, strs, fuV, one_strs, hone, hcls, hone2, hcls2, upd_app, RR, seval]; rfl))
        have hb2 := gb2; clear gb2
        have hb3 := gb3; clear gb3
        have hb4 := gb4; clear gb4
        have hown := OwnL.kp hown hr0 (by decide) hk28x
        have hown2 := OwnL.kp hown2 hr0 (by decide) hk28x
        have hr0 := hn28x; clear hn28x hk28x
        simp only [f0, hb2, hr0, hb3, hb4, nb2_r0, nr0_b2, nb3_r0, nr0_b3, nb3_b2, nb2_b3, nb4_b2, nb2_b4, nb4_r0, nr0_b4, nb4_b3, nb3_b4, List.length_map, strs, fuV, one_strs, hone, hcls, hone2, hcls2, RR, seval]
        refine hK _ _ ?_; clear hK K
        refine awp_seq_k fun K hK => ?_
        refine awp_region rfl ?_
        simp only [f0, hb2, hr0, hb3, hb4, nb2_r0, nr0_b2, nb3_r0, nr0_b3, nb3_b2, nb2_b3, nb4_b2, nb2_b4, nb4_r0, nr0_b4, nb4_b3, nb3_b4, List.length_map, strs, fuV, one_strs, hone, hcls, hone2, hcls2, RR, seval]
        refine awpC_jd (token_con r0 hT m28 w28 hlt28 2 (by decide)) (by first | exact hr0 | (simp only [f0, f2, f3, f4, hb2, hr0, hb3, hb4, nb2_r0, nr0_b2, nb3_r0, nr0_b3, nb3_b2, nb2_b3, nb4_b2, nb2_b4, nb4_r0, nr0_b4, nb4_b3, nb3_b4, List.length_map, strs, fuV, one_strs, hone, hcls, hone2, hcls2, upd_app, RR, seval]; done)) trivial fun a30 m30 w30 M14 hj30 hle30 hlt30 hn30x hk30x => ?_
        have hres := stW_step hres hj30
        have gb2 := hk30x b2 _ (by first | exact nb2_r0 | exact blk_ne hb2 hr0 (by decide) | (intro e; subst e; simp_all)) (by first | exact hb2 | exact upd_same _ _ _ | (simp only [f0, f2, f3, f4, hb2, hr0, hb3, hb4, nb2_r0, nr0_b2, nb3_r0, nr0_b3, nb3_b2, nb2_b3, nb4_b2, nb2_b4, nb4_r0, nr0_b4, nb4_b3, nb3_b4, List.length_map, strs, fuV, one_strs, hone, hcls, hone2, hcls2, upd_app, RR, seval]; rfl))
        have e0_b2 := (gb2.trans hb2.symm).trans e0_b2
        have gb3 := hk30x b3 _ (by first | exact nb3_r0 | exact blk_ne hb3 hr0 (by decide) | (intro e; subst e; simp_all)) (by first | exact hb3 | exact upd_same _ _ _ | (simp only [f0, f2, f3, f4, hb2, hr0, hb3, hb4, nb2_r0, nr0_b2, nb3_r0, nr0_b3, nb3_b2, nb2_b3, nb4_b2, nb2_b4, nb4_r0, nr0_b4, nb4_b3, nb3_b4, List.length_map, strs, fuV, one_strs, hone, hcls, hone2, hcls2, upd_app, RR, seval]; rfl))
        have gb4 := hk30x b4 _ (by first | exact nb4_r0 | exact blk_ne hb4 hr0 (by decide) | (intro e; subst e; simp_all)) (by first | exact hb4 | exact upd_same _ _ _ | (simp only [f0, f2, f3, f4, hb2, hr0, hb3, hb4, nb2_r0, nr0_b2, nb3_r0, nr0_b3, nb3_b2, nb2_b3, nb4_b2, nb2_b4, nb4_r0, nr0_b4, nb4_b3, nb3_b4, List.length_map, strs, fuV, one_strs, hone, hcls, hone2, hcls2, upd_app, RR, seval]; rfl))
        have hb2 := gb2; clear gb2
        have hb3 := gb3; clear gb3
        have hb4 := gb4; clear gb4
        have hown := OwnL.kp hown hr0 (by decide) hk30x
        have hown2 := OwnL.kp hown2 hr0 (by decide) hk30x
        have hr0 := hn30x; clear hn30x hk30x
        simp only [f0, hb2, hr0, hb3, hb4, nb2_r0, nr0_b2, nb3_r0, nr0_b3, nb3_b2, nb2_b3, nb4_b2, nb2_b4, nb4_r0, nr0_b4, nb4_b3, nb3_b4, List.length_map, strs, fuV, one_strs, hone, hcls, hone2, hcls2, RR, seval]
        refine hK _ _ ?_; clear hK K
        obtain ⟨G, hG⟩ : ∃ G : Int → PR Pg, G = fun x => (mustI T [93] m30).bind fun _ m => (mustI T [59] m).bind fun _ m => (headP T vs (ar ++ [⟨a24.text, x⟩]) m).bind (progK T) := ⟨_, rfl⟩
        have hres : stW w30 m30 (G a30.num) = res := by rw [hG]; exact hres
        have hres := jtok_num (G := G) hT hj30 hres
        rw [hG] at hres
        dsimp only at hres
        refine awp_seq_k fun K hK => ?_
        refine awp_region rfl ?_
        simp only [f0, hb2, hr0, hb3, hb4, nb2_r0, nr0_b2, nb3_r0, nr0_b3, nb3_b2, nb2_b3, nb4_b2, nb2_b4, nb4_r0, nr0_b4, nb4_b3, nb3_b4, List.length_map, strs, fuV, one_strs, hone, hcls, hone2, hcls2, RR, seval]
        refine awpC_jd (jmust_con r0 hT m30 w30 hlt30 [93] (by decide)) (by first | exact hr0 | (simp only [f0, f2, f3, f4, hb2, hr0, hb3, hb4, nb2_r0, nr0_b2, nb3_r0, nr0_b3, nb3_b2, nb2_b3, nb4_b2, nb2_b4, nb4_r0, nr0_b4, nb4_b3, nb3_b4, List.length_map, strs, fuV, one_strs, hone, hcls, hone2, hcls2, upd_app, RR, seval]; done)) trivial fun a33 m33 w33 M15 hj33 hle33 hlt33 hn33x hk33x => ?_
        have hres := stW_step hres hj33
        have gb2 := hk33x b2 _ (by first | exact nb2_r0 | exact blk_ne hb2 hr0 (by decide) | (intro e; subst e; simp_all)) (by first | exact hb2 | exact upd_same _ _ _ | (simp only [f0, f2, f3, f4, hb2, hr0, hb3, hb4, nb2_r0, nr0_b2, nb3_r0, nr0_b3, nb3_b2, nb2_b3, nb4_b2, nb2_b4, nb4_r0, nr0_b4, nb4_b3, nb3_b4, List.length_map, strs, fuV, one_strs, hone, hcls, hone2, hcls2, upd_app, RR, seval]; rfl))
        have e0_b2 := (gb2.trans hb2.symm).trans e0_b2
        have gb3 := hk33x b3 _ (by first | exact nb3_r0 | exact blk_ne hb3 hr0 (by decide) | (intro e; subst e; simp_all)) (by first | exact hb3 | exact upd_same _ _ _ | (simp only [f0, f2, f3, f4, hb2, hr0, hb3, hb4, nb2_r0, nr0_b2, nb3_r0, nr0_b3, nb3_b2, nb2_b3, nb4_b2, nb2_b4, nb4_r0, nr0_b4, nb4_b3, nb3_b4, List.length_map, strs, fuV, one_strs, hone, hcls, hone2, hcls2, upd_app, RR, seval]; rfl))
        have gb4 := hk33x b4 _ (by first | exact nb4_r0 | exact blk_ne hb4 hr0 (by decide) | (intro e; subst e; simp_all)) (by first | exact hb4 | exact upd_same _ _ _ | (simp only [f0, f2, f3, f4, hb2, hr0, hb3, hb4, nb2_r0, nr0_b2, nb3_r0, nr0_b3, nb3_b2, nb2_b3, nb4_b2, nb2_b4, nb4_r0, nr0_b4, nb4_b3, nb3_b4, List.length_map, strs, fuV, one_strs, hone, hcls, hone2, hcls2, upd_app, RR, seval]; rfl))
        have hb2 := gb2; clear gb2
        have hb3 := gb3; clear gb3
        have hb4 := gb4; clear gb4
        have hown := OwnL.kp hown hr0 (by decide) hk33x
        have hown2 := OwnL.kp hown2 hr0 (by decide) hk33x
        have hr0 := hn33x; clear hn33x hk33x
        simp only [f0, hb2, hr0, hb3, hb4, nb2_r0, nr0_b2, nb3_r0, nr0_b3, nb3_b2, nb2_b3, nb4_b2, nb2_b4, nb4_r0, nr0_b4, nb4_b3, nb3_b4, List.length_map, strs, fuV, one_strs, hone, hcls, hone2, hcls2, RR, seval]
        refine hK _ _ ?_; clear hK K
        refine awp_seq_k fun K hK => ?_
        refine awp_region rfl ?_
        simp only [f0, hb2, hr0, hb3, hb4, nb2_r0, nr0_b2, nb3_r0, nr0_b3, nb3_b2, nb2_b3, nb4_b2, nb2_b4, nb4_r0, nr0_b4, nb4_b3, nb3_b4, List.length_map, strs, fuV, one_strs, hone, hcls, hone2, hcls2, RR, seval]
        refine awpC_jd (jmust_con r0 hT m33 w33 hlt33 [59] (by decide)) (by first | exact hr0 | (simp only [f0, f2, f3, f4, hb2, hr0, hb3, hb4, nb2_r0, nr0_b2, nb3_r0, nr0_b3, nb3_b2, nb2_b3, nb4_b2, nb2_b4, nb4_r0, nr0_b4, nb4_b3, nb3_b4, List.length_map, strs, fuV, one_strs, hone, hcls, hone2, hcls2, upd_app, RR, seval]; done)) trivial fun a35 m35 w35 M16 hj35 hle35 hlt35 hn35x hk35x => ?_
        have hres := stW_step hres hj35
        have gb2 := hk35x b2 _ (by first | exact nb2_r0 | exact blk_ne hb2 hr0 (by decide) | (intro e; subst e; simp_all)) (by first | exact hb2 | exact upd_same _ _ _ | (simp only [f0, f2, f3, f4, hb2, hr0, hb3, hb4, nb2_r0, nr0_b2, nb3_r0, nr0_b3, nb3_b2, nb2_b3, nb4_b2, nb2_b4, nb4_r0, nr0_b4, nb4_b3, nb3_b4, List.length_map, strs, fuV, one_strs, hone, hcls, hone2, hcls2, upd_app, RR, seval]; rfl))
        have e0_b2 := (gb2.trans hb2.symm).trans e0_b2
        have gb3 := hk35x b3 _ (by first | exact nb3_r0 | exact blk_ne hb3 hr0 (by decide) | (intro e; subst e; simp_all)) (by first | exact hb3 | exact upd_same _ _ _ | (simp only [f0, f2, f3, f4, hb2, hr0, hb3, hb4, nb2_r0, nr0_b2, nb3_r0, nr0_b3, nb3_b2, nb2_b3, nb4_b2, nb2_b4, nb4_r0, nr0_b4, nb4_b3, nb3_b4, List.length_map, strs, fuV, one_strs, hone, hcls, hone2, hcls2, upd_app, RR, seval]; rfl))
        have gb4 := hk35x b4 _ (by first | exact nb4_r0 | exact blk_ne hb4 hr0 (by decide) | (intro e; subst e; simp_all)) (by first | exact hb4 | exact upd_same _ _ _ | (simp only [f0, f2, f3, f4, hb2, hr0, hb3, hb4, nb2_r0, nr0_b2, nb3_r0, nr0_b3, nb3_b2, nb2_b3, nb4_b2, nb2_b4, nb4_r0, nr0_b4, nb4_b3, nb3_b4, List.length_map, strs, fuV, one_strs, hone, hcls, hone2, hcls2, upd_app, RR, seval]; rfl))
        have hb2 := gb2; clear gb2
        have hb3 := gb3; clear gb3
        have hb4 := gb4; clear gb4
        have hown := OwnL.kp hown hr0 (by decide) hk35x
        have hown2 := OwnL.kp hown2 hr0 (by decide) hk35x
        have hr0 := hn35x; clear hn35x hk35x
        simp only [f0, hb2, hr0, hb3, hb4, nb2_r0, nr0_b2, nb3_r0, nr0_b3, nb3_b2, nb2_b3, nb4_b2, nb2_b4, nb4_r0, nr0_b4, nb4_b3, nb3_b4, List.length_map, strs, fuV, one_strs, hone, hcls, hone2, hcls2, RR, seval]
        refine hK _ _ ?_; clear hK K
        obtain ⟨mz, hmz⟩ : ∃ mz : Nat, mz = m35 := ⟨_, rfl⟩
        refine awp_seq_k fun K hK => ?_
        refine awp_region rfl ?_
        simp only [f4, hb2, hr0, hb3, hb4, nb2_r0, nr0_b2, nb3_r0, nr0_b3, nb3_b2, nb2_b3, nb4_b2, nb2_b4, nb4_r0, nr0_b4, nb4_b3, nb3_b4, List.length_map, strs, fuV, one_strs, hone, hcls, hone2, hcls2, RR, seval]
        refine hK _ _ ?_; clear hK K
        refine awp_name fun F17 M17 hfr hH => ?_
        have g0 := hfr 0
        have g2 := hfr 2
        have g3 := hfr 3
        have g4 := hfr 4
        have g5 := hfr 5
        have gb2 := hH b2
        have gr0 := hH r0
        have gb3 := hH b3
        have gb4 := hH b4
        try simp only [f0, f2, f3, f4, hb2, hr0, hb3, hb4, nb2_r0, nr0_b2, nb3_r0, nr0_b3, nb3_b2, nb2_b3, nb4_b2, nb2_b4, nb4_r0, nr0_b4, nb4_b3, nb3_b4, List.length_map, strs, fuV, one_strs, hone, hcls, hone2, hcls2, RR, seval] at g0 g2 g3 g4 g5 gb2 gr0 gb3 gb4
        have ag0 : agree [0, 2, 3] F2 F17 := agree.same hfr (by repeat (first | exact ag0 | refine agree.upd rfl ?_))
        have e0_b2 := (hH b2).trans (by first | exact e0_b2 | (simp only [nb2_r0, nr0_b2, nb3_r0, nr0_b3, nb3_b2, nb2_b3, nb4_b2, nb2_b4, nb4_r0, nr0_b4, nb4_b3, nb3_b4, upd_app, seval]; first | done | exact e0_b2))
        have hown := (hown.off ho41 _).same hH
        have hown2 := (hown2.off ho4 _).same hH
        have ho1k := ho3
        have ho3 := hof2
        have f0 := g0; clear g0
        have f2 := g2; clear g2
        have f3 := g3; clear g3
        have f4 := g4; clear g4
        have f5 := g5; clear g5
        have hb2 := gb2; clear gb2
        have hr0 := gr0; clear gr0
        have hb3 := gb3; clear gb3
        have hb4 := gb4; clear gb4
        clear hfr hH
        refine awp_seq_k fun K hK => ?_
        refine awp_region rfl ?_
        simp only [f3, f4, hb2, hr0, hb3, hb4, nb2_r0, nr0_b2, nb3_r0, nr0_b3, nb3_b2, nb2_b3, nb4_b2, nb2_b4, nb4_r0, nr0_b4, nb4_b3, nb3_b4, List.length_map, strs, fuV, one_strs, hone, hcls, hone2, hcls2, RR, seval]
        refine awpB_sealed ?_
        simp only [f3, f4, hb2, hr0, hb3, hb4, nb2_r0, nr0_b2, nb3_r0, nr0_b3, nb3_b2, nb2_b3, nb4_b2, nb2_b4, nb4_r0, nr0_b4, nb4_b3, nb3_b4, List.length_map, strs, fuV, one_strs, hone, hcls, hone2, hcls2, RR, seval]
        refine awpA_ownF hown2 (by simp only [List.length_map, List.length_cons, List.length_nil]; omega) (fun b e => by first | trivial | (repeat' apply And.intro) <;> (intro c; subst c; first | exact ho3 _ _ e | exact ho4 _ _ e | exact hown2.nb' hb2 (by decide) e | exact hown2.nb' hr0 (by decide) e)) fun v13 M18 hown2' hk' hg' => ?_
        have ho3' := hg' b3 ho3 (by rw [hb3]; exact Option.some_ne_none _)
        have ho4' := hg' b4 ho4 (by rw [hb4]; exact Option.some_ne_none _)
        simp only [f3, f4, hb2, hr0, hb3, hb4, nb2_r0, nr0_b2, nb3_r0, nr0_b3, nb3_b2, nb2_b3, nb4_b2, nb2_b4, nb4_r0, nr0_b4, nb4_b3, nb3_b4, List.length_map, strs, fuV, one_strs, hone, hcls, hone2, hcls2, RR, seval]
        have gb2 := hk' b2 _ hb2 (by first | exact (hown2).nb' hb2 (by decide) | exact ho2 _ _ | assumption | (intro e; simp_all))
        have e0_b2 := (gb2.trans hb2.symm).trans e0_b2
        have hb2 := gb2; clear gb2
        have gr0 := hk' r0 _ hr0 (by first | exact (hown2).nb' hr0 (by decide) | exact ho0 _ _ | assumption | (intro e; simp_all))
        have hr0 := gr0; clear gr0
        have gb3 := hk' b3 _ hb3 (by first | exact (hown2).nb' hb3 (by decide) | exact ho3 _ _ | assumption | (intro e; simp_all))
        have hb3 := gb3; clear gb3
        have gb4 := hk' b4 _ hb4 (by first | exact (hown2).nb' hb4 (by decide) | exact ho4 _ _ | assumption | (intro e; simp_all))
        have hb4 := gb4; clear gb4
        have hce := hown2'.cells; have hoe := hown2'.one1
        try simp only [hce, hoe, Option.bind_some, List.drop, f3, f4, hb2, hr0, hb3, hb4, nb2_r0, nr0_b2, nb3_r0, nr0_b3, nb3_b2, nb2_b3, nb4_b2, nb2_b4, nb4_r0, nr0_b4, nb4_b3, nb3_b4, List.length_map, strs, fuV, one_strs, hone, hcls, hone2, hcls2, RR, seval]
        refine hK _ _ ?_; clear hK K
        have hown := hown.app2 hown2 (by decide) hk'
        refine awp_exit ?_; simp only [RR, seval]
        try rw [IntWalk.i64_in _ (by omega)]
        refine hK0 (T.length - mz) _ _ (by omega) ⟨(by first | exact e0_b2 | (simp only [nb2_r0, nr0_b2, nb3_r0, nr0_b3, nb3_b2, nb2_b3, nb4_b2, nb2_b4, nb4_r0, nr0_b4, nb4_b3, nb3_b4, upd_app, seval]; first | done | exact e0_b2)), ?_⟩ (by repeat (first | exact ag0 | refine agree.upd rfl ?_))
        first
          | (refine ⟨m20, w20, vs ++ a16, ar, _, v2, ?_, ?_, hlt20, ?_, ?_, ?_, ?_, hown2, hb3, hr0⟩; omega; omega; (simp only [List.length_append]; omega); omega; exact hres; (rw [List.map_append]; exact hown'))
          | (refine ⟨m35, w35, vs, ar ++ [⟨a24.text, IntKind.wrap .i64 a30.num⟩], v1, _, ?_, ?_, hlt35, ?_, ?_, ?_, hown.off ho1k _, ?_, upd_same _ _ _, ?_⟩; omega; omega; omega; (simp only [List.length_append, List.length_cons, List.length_nil]; omega); exact hres; (rw [List.map_append]; exact hown2'.off ho3' _); (simp only [f0, f2, f3, f4, f5, hb2, hr0, hb3, hb4, nb2_r0, nr0_b2, nb3_r0, nr0_b3, nb3_b2, nb2_b3, nb4_b2, nb2_b4, nb4_r0, nr0_b4, nb4_b3, nb3_b4, List.length_map, strs, fuV, one_strs, hone, hcls, hone2, hcls2, upd_app, RR, seval]; done))
      · have hres := is_f hc6 hres
        rw [if_neg (Bool.eq_false_iff.1 hc6)] at hr0
        refine awp_skip ?_; try simp only [RR]
        refine awp_exit ?_; simp only [RR, seval]
        refine awp_name fun F19 M19 hfr hH => ?_
        have g0 := hfr 0
        have g2 := hfr 2
        have g3 := hfr 3
        have gb2 := hH b2
        have gr0 := hH r0
        have gb3 := hH b3
        try simp only [f0, f2, f3, hb2, hr0, hb3, nb2_r0, nr0_b2, nb3_r0, nr0_b3, nb3_b2, nb2_b3, List.length_map, strs, fuV, one_strs, hone, hcls, hone2, hcls2, RR, seval] at g0 g2 g3 gb2 gr0 gb3
        have hown := hown.same hH
        have hown2 := hown2.same hH
        have f0 := g0; clear g0
        have f2 := g2; clear g2
        have f3 := g3; clear g3
        have hb2 := gb2; clear gb2
        have hr0 := gr0; clear gr0
        have hb3 := gb3; clear gb3
        clear hfr hH
        rw [progK_q] at hres
        have h0 : M19 b3 = some (.rows 3 [[] ++ v1 :: [v2, .nsl]]) := hb3
        refine awp_sealP hown h0 (fun x hx => by cases hx) (fun x hx => by simp only [List.mem_cons, List.not_mem_nil, or_false] at hx; rcases hx with rfl | rfl; exact noO_own hown hown2 (by decide); exact noO_flat rfl) ho3 fun F7a M7a hfF hb3' hbF => ?_
        have f0 := (hfF 0 (by rw [f0]; exact noO_flat rfl)).trans f0
        have f2 := (hfF 2 (by rw [f2]; exact noO_flat rfl)).trans f2
        have f3 := (hfF 3 (by rw [f3]; exact noO_flat rfl)).trans f3
        have hr0 := hbF r0 _ _ nr0_b3 (hown.offsz hr0 (by decide)) (fun r hr x hx => by simp only [List.mem_singleton] at hr; subst hr; simp only [List.mem_cons, List.not_mem_nil, or_false] at hx; rcases hx with rfl | rfl | rfl <;> exact noO_flat rfl) hr0
        have hb2 := hbF b2 _ _ nb2_b3 (hown.offsz hb2 (by decide)) (fun r hr x hx => by simp only [List.mem_singleton] at hr; subst hr; simp only [List.mem_cons, List.not_mem_nil, or_false] at hx; rcases hx with rfl | rfl | rfl <;> exact noO_flat rfl) hb2
        have hown2 := hown2.thru hown (by decide) hb3 (by decide) (flat_ars _) hbF
        have hb3 : M7a b3 = some (.rows 3 [[.isl 1 (vs.map strRow), v2, .nsl]]) := hb3'
        clear hb3' h0 hfF hbF
        have h0 : M7a b3 = some (.rows 3 [[.isl 1 (vs.map strRow)] ++ v2 :: [.nsl]]) := hb3
        refine awp_sealP hown2 h0 (fun x hx => by simp only [List.mem_cons, List.not_mem_nil, or_false] at hx; rcases hx with rfl; exact noO_flat rfl) (fun x hx => by simp only [List.mem_cons, List.not_mem_nil, or_false] at hx; rcases hx with rfl; exact noO_flat rfl) hof2 fun F7b M7b hfF hb3' hbF => ?_
        have f0 := (hfF 0 (by rw [f0]; exact noO_flat rfl)).trans f0
        have f2 := (hfF 2 (by rw [f2]; exact noO_flat rfl)).trans f2
        have f3 := (hfF 3 (by rw [f3]; exact noO_flat rfl)).trans f3
        have hr0 := hbF r0 _ _ nr0_b3 (hown2.offsz hr0 (by decide)) (fun r hr x hx => by simp only [List.mem_singleton] at hr; subst hr; simp only [List.mem_cons, List.not_mem_nil, or_false] at hx; rcases hx with rfl | rfl | rfl <;> exact noO_flat rfl) hr0
        have hb2 := hbF b2 _ _ nb2_b3 (hown2.offsz hb2 (by decide)) (fun r hr x hx => by simp only [List.mem_singleton] at hr; subst hr; simp only [List.mem_cons, List.not_mem_nil, or_false] at hx; rcases hx with rfl | rfl | rfl <;> exact noO_flat rfl) hb2
        have hb3 : M7b b3 = some (.rows 3 [[.isl 1 (vs.map strRow), .isl 2 (ar.map Ar.row), .nsl]]) := hb3'
        clear hb3' h0 hfF hbF
        have ho3 : Al.off AV.nsl b3 := fun _ _ h => by cases h
        refine awp_seq_k fun K hK => ?_
        refine awp_region rfl ?_
        simp only [f0, hb2, hr0, hb3, nb2_r0, nr0_b2, nb3_r0, nr0_b3, nb3_b2, nb2_b3, List.length_map, strs, fuV, one_strs, hone, hcls, hone2, hcls2, RR, seval]
        refine awpC_jd (jmust_con r0 hT m w' hm wFunc (by decide)) (by first | exact hr0 | (simp only [f0, f2, f3, hb2, hr0, hb3, nb2_r0, nr0_b2, nb3_r0, nr0_b3, nb3_b2, nb2_b3, List.length_map, strs, fuV, one_strs, hone, hcls, hone2, hcls2, upd_app, RR, seval]; done)) trivial fun a46 m46 w46 M20 hj46 hle46 hlt46 hn46x hk46x => ?_
        have hres := stW_step hres hj46
        have gb2 := hk46x b2 _ (by first | exact nb2_r0 | exact blk_ne hb2 hr0 (by decide) | (intro e; subst e; simp_all)) (by first | exact hb2 | exact upd_same _ _ _ | (simp only [f0, f2, f3, hb2, hr0, hb3, nb2_r0, nr0_b2, nb3_r0, nr0_b3, nb3_b2, nb2_b3, List.length_map, strs, fuV, one_strs, hone, hcls, hone2, hcls2, upd_app, RR, seval]; rfl))
        have gb3 := hk46x b3 _ (by first | exact nb3_r0 | exact blk_ne hb3 hr0 (by decide) | (intro e; subst e; simp_all)) (by first | exact hb3 | exact upd_same _ _ _ | (simp only [f0, f2, f3, hb2, hr0, hb3, nb2_r0, nr0_b2, nb3_r0, nr0_b3, nb3_b2, nb2_b3, List.length_map, strs, fuV, one_strs, hone, hcls, hone2, hcls2, upd_app, RR, seval]; rfl))
        have hb2 := gb2; clear gb2
        have hb3 := gb3; clear gb3
        have hr0 := hn46x; clear hn46x hk46x
        simp only [f0, hb2, hr0, hb3, nb2_r0, nr0_b2, nb3_r0, nr0_b3, nb3_b2, nb2_b3, List.length_map, strs, fuV, one_strs, hone, hcls, hone2, hcls2, RR, seval]
        refine hK _ _ ?_; clear hK K
        refine awp_name fun F21 M21 hfr hH => ?_
        have g0 := hfr 0
        have g2 := hfr 2
        have g3 := hfr 3
        have gb2 := hH b2
        have gr0 := hH r0
        have gb3 := hH b3
        try simp only [f0, f2, f3, hb2, hr0, hb3, nb2_r0, nr0_b2, nb3_r0, nr0_b3, nb3_b2, nb2_b3, List.length_map, strs, fuV, one_strs, hone, hcls, hone2, hcls2, RR, seval] at g0 g2 g3 gb2 gr0 gb3
        have f0 := g0; clear g0
        have f2 := g2; clear g2
        have f3 := g3; clear g3
        have hb2 := gb2; clear gb2
        have hr0 := gr0; clear gr0
        have hb3 := gb3; clear gb3
        clear hfr hH
        refine awp_block ?_
        refine awp_while [0, 2, 3] (msr T m46 w46) (fun k fr M => M b2 = M21 b2 ∧ (∃ (m : Nat) (w' : Bool) (fs : List Fu) (v : AV), k = msr T m w' ∧ n ≤ m ∧ m ≤ T.length ∧ fs.length ≤ m + 1 ∧ (w' = false → fs.length ≤ m) ∧ stW w' m (progQ T vs ar fs m) = res ∧ OwnL 5 v (fs.map Fu.row) M ∧ M b3 = some (.rows 3 [[.isl 1 (vs.map strRow), .isl 2 (ar.map Ar.row), v]]) ∧ M r0 = some (.rows 3 [[.isl 4 (T.map Tok.row), .int .i64 (m : Nat), .bool w']]))) ⟨rfl, m46, w46, [], .nsl, rfl, by omega, hlt46, Nat.zero_le _, fun _ => Nat.zero_le _, hres, .inl ⟨rfl, rfl⟩, hb3, hr0⟩ ?_
        rintro k F22 M22 ⟨gb2, m, w', fs, v3, rfl, hnm, hm, hfl, hfl2, hres, hown3, hb3, hr0⟩ agx K2 hK2
        have f0 := (agx 0 rfl).trans f0
        have f2 := (agx 2 rfl).trans f2
        have f3 := (agx 3 rfl).trans f3
        have hb2 := gb2.trans hb2
        have ag2 := agree.refl [0, 2, 3] F22
        have e2_b2 := gb2; clear gb2
        clear agx
        have ho3 := hown3.offsz hb3 (by decide)
        have hone3 := hown3.one1
        have hcls3 := hown3.cells
        refine awp_block ?_
        refine awp_seq ?_
        refine awp_seq_k fun K hK => ?_
        refine awp_region rfl ?_
        simp only [f0, hb2, hr0, hb3, nb2_r0, nr0_b2, nb3_r0, nr0_b3, nb3_b2, nb2_b3, List.length_map, strs, fuV, one_strs, hone, hcls, hone2, hcls2, hone3, hcls3, RR, seval]
        refine hK _ _ ?_; clear hK K
        refine awp_if _ rfl (fun hc15 => ?_) (fun hc15 => ?_)
        · have hres : stW w' m (PR.ok (⟨vs, ar, fs⟩ : Pg) m) = res := by rw [hc15] at hres ⊢; exact hres
          obtain ⟨n2, hn2e⟩ : ∃ n2 : Nat, n2 = m := ⟨_, rfl⟩
          rw [← hn2e] at hres hr0
          have hn1 : n ≤ n2 := by omega
          have hn2 : n2 ≤ T.length := by omega
          refine awp_name fun F23 M23 hfr hH => ?_
          have g0 := hfr 0
          have g2 := hfr 2
          have g3 := hfr 3
          have gb2 := hH b2
          have gr0 := hH r0
          have gb3 := hH b3
          try simp only [f0, f2, f3, hb2, hr0, hb3, nb2_r0, nr0_b2, nb3_r0, nr0_b3, nb3_b2, nb2_b3, List.length_map, strs, fuV, one_strs, hone, hcls, hone2, hcls2, hone3, hcls3, RR, seval] at g0 g2 g3 gb2 gr0 gb3
          have ag2 : agree [0, 2, 3] F22 F23 := agree.same hfr (by repeat (first | exact ag2 | refine agree.upd rfl ?_))
          have e2_b2 := (hH b2).trans (by first | exact e2_b2 | (simp only [nb2_r0, nr0_b2, nb3_r0, nr0_b3, nb3_b2, nb2_b3, upd_app, seval]; first | done | exact e2_b2))
          have hown3 := hown3.same hH
          have f0 := g0; clear g0
          have f2 := g2; clear g2
          have f3 := g3; clear g3
          have hb2 := gb2; clear gb2
          have hr0 := gr0; clear gr0
          have hb3 := gb3; clear gb3
          clear hfr hH
          have h0 : M23 b3 = some (.rows 3 [[.isl 1 (vs.map strRow), .isl 2 (ar.map Ar.row)] ++ v3 :: []]) := hb3
          refine awp_sealP hown3 h0 (fun x hx => by simp only [List.mem_cons, List.not_mem_nil, or_false] at hx; rcases hx with rfl | rfl <;> exact noO_flat rfl) (fun x hx => by cases hx) ho3 fun F9a M9a hfF hb3' hbF => ?_
          have f2 := (hfF 2 (by rw [f2]; exact noO_flat rfl)).trans f2
          have f3 := (hfF 3 (by rw [f3]; exact noO_flat rfl)).trans f3
          have hr0 := hbF r0 _ _ nr0_b3 (hown3.offsz hr0 (by decide)) (fun r hr x hx => by simp only [List.mem_singleton] at hr; subst hr; simp only [List.mem_cons, List.not_mem_nil, or_false] at hx; rcases hx with rfl | rfl | rfl <;> exact noO_flat rfl) hr0
          have hb2 := hbF b2 _ _ nb2_b3 (hown3.offsz hb2 (by decide)) (fun r hr x hx => by simp only [List.mem_singleton] at hr; subst hr; simp only [List.mem_cons, List.not_mem_nil, or_false] at hx; rcases hx with rfl | rfl | rfl <;> exact noO_flat rfl) hb2
          have hb3 : M9a b3 = some (.rows 3 [[.isl 1 (vs.map strRow), .isl 2 (ar.map Ar.row), .isl 5 (fs.map Fu.row)]]) := hb3'
          clear hb3' h0 hfF hbF
          refine awp_seq_k fun K hK => ?_
          refine awp_region rfl ?_
          simp only [f2, f3, hb2, hr0, hb3, nb2_r0, nr0_b2, nb3_r0, nr0_b3, nb3_b2, nb2_b3, List.length_map, strs, fuV, one_strs, hone, hcls, hone2, hcls2, hone3, hcls3, RR, seval]
          refine hK _ _ ?_; clear hK K
          refine awp_ret ?_; simp only [bodyQ, aresult, ares, f0, f2, f3, hb2, hr0, hb3, nb2_r0, nr0_b2, nb3_r0, nr0_b3, nb3_b2, nb2_b3, List.length_map, strs, fuV, one_strs, hone, hcls, hone2, hcls2, hone3, hcls3, RR, seval]
          refine jgives (by first | exact hr0 | (simp only [f0, f2, f3, hb2, hr0, hb3, nb2_r0, nr0_b2, nb3_r0, nr0_b3, nb3_b2, nb2_b3, List.length_map, strs, fuV, one_strs, hone, hcls, hone2, hcls2, hone3, hcls3, upd_app, RR, seval]; done)) hres ?_ hn1 hn2
          exact Sub.refl _
        · unfold progQ at hres
          have hfl := hfl2 hc15
          refine awp_skip ?_; try simp only [RR]
          refine awp_name fun F24 M24 hfr hH => ?_
          have g0 := hfr 0
          have g2 := hfr 2
          have g3 := hfr 3
          have gb2 := hH b2
          have gr0 := hH r0
          have gb3 := hH b3
          try simp only [f0, f2, f3, hb2, hr0, hb3, nb2_r0, nr0_b2, nb3_r0, nr0_b3, nb3_b2, nb2_b3, List.length_map, strs, fuV, one_strs, hone, hcls, hone2, hcls2, hone3, hcls3, RR, seval] at g0 g2 g3 gb2 gr0 gb3
          have ag2 : agree [0, 2, 3] F22 F24 := agree.same hfr (by repeat (first | exact ag2 | refine agree.upd rfl ?_))
          have e2_b2 := (hH b2).trans (by first | exact e2_b2 | (simp only [nb2_r0, nr0_b2, nb3_r0, nr0_b3, nb3_b2, nb2_b3, upd_app, seval]; first | done | exact e2_b2))
          have hown3 := hown3.same hH
          have f0 := g0; clear g0
          have f2 := g2; clear g2
          have f3 := g3; clear g3
          have hb2 := gb2; clear gb2
          have hr0 := gr0; clear gr0
          have hb3 := gb3; clear gb3
          clear hfr hH
          refine awp_seq_k fun K hK => ?_
          refine awp_region_draw2 (fun x => x ≠ b3 ∧ x ≠ b2) [(0, 3), (1, 0), (2, 3), (3, 1), (4, 2), (5, 1), (6, 3)] [(7, 1)] draws (by kernel_rfl) rfl rfl ?_
          simp only [emitF, markOf, EM, f0, f3, hb2, hr0, hb3, nb2_r0, nr0_b2, nb3_r0, nr0_b3, nb3_b2, nb2_b3, List.length_map, strs, fuV, one_strs, hone, hcls, hone2, hcls2, hone3, hcls3, RR, seval]
          refine awpC_jd (jfun_con r0 hT m w' hm) (by first | exact hr0 | (simp only [f0, f2, f3, hb2, hr0, hb3, nb2_r0, nr0_b2, nb3_r0, nr0_b3, nb3_b2, nb2_b3, List.length_map, strs, fuV, one_strs, hone, hcls, hone2, hcls2, hone3, hcls3, upd_app, RR, seval]; done)) (by first | trivial | (repeat' apply And.intro) <;> assumption) fun a55 m55 w55 M25 hj55 hle55 hlt55 hn55x hk55x => ?_
          have hres := stW_step hres hj55
          have gb2 := hk55x b2 _ (by first | exact nb2_r0 | exact blk_ne hb2 hr0 (by decide) | (intro e; subst e; simp_all)) (by first | exact hb2 | exact upd_same _ _ _ | (simp only [f0, f2, f3, hb2, hr0, hb3, nb2_r0, nr0_b2, nb3_r0, nr0_b3, nb3_b2, nb2_b3, List.length_map, strs, fuV, one_strs, hone, hcls, hone2, hcls2, hone3, hcls3, upd_app, RR, seval]; rfl))
          have e2_b2 := (gb2.trans hb2.symm).trans e2_b2
          have gb3 := hk55x b3 _ (by first | exact nb3_r0 | exact blk_ne hb3 hr0 (by decide) | (intro e; subst e; simp_all)) (by first | exact hb3 | exact upd_same _ _ _ | (simp only [f0, f2, f3, hb2, hr0, hb3, nb2_r0, nr0_b2, nb3_r0, nr0_b3, nb3_b2, nb2_b3, List.length_map, strs, fuV, one_strs, hone, hcls, hone2, hcls2, hone3, hcls3, upd_app, RR, seval]; rfl))
          have hb2 := gb2; clear gb2
          have hb3 := gb3; clear gb3
          have hown3 := OwnL.kp hown3 hr0 (by decide) hk55x
          have hr0 := hn55x; clear hn55x hk55x
          simp only [emitF, markOf, EM, f0, f3, hb2, hr0, hb3, nb2_r0, nr0_b2, nb3_r0, nr0_b3, nb3_b2, nb2_b3, List.length_map, strs, fuV, one_strs, hone, hcls, hone2, hcls2, hone3, hcls3, RR, seval]
          refine awpA_ownF hown3 (by simp only [List.length_map, List.length_cons, List.length_nil]; omega) (fun b e => by first | trivial | (repeat' apply And.intro) <;> (intro c; subst c; first | exact ho3 _ _ e | exact hown3.nb' hb2 (by decide) e | exact hown3.nb' hr0 (by decide) e)) fun v17 M26 hown3' hk' hg' => ?_
          have ho3' := hg' b3 ho3 (by rw [hb3]; exact Option.some_ne_none _)
          simp only [emitF, markOf, EM, f0, f3, hb2, hr0, hb3, nb2_r0, nr0_b2, nb3_r0, nr0_b3, nb3_b2, nb2_b3, List.length_map, strs, fuV, one_strs, hone, hcls, hone2, hcls2, hone3, hcls3, RR, seval]
          have gb2 := hk' b2 _ hb2 (by first | exact (hown3).nb' hb2 (by decide) | exact ho2 _ _ | assumption | (intro e; simp_all))
          have e2_b2 := (gb2.trans hb2.symm).trans e2_b2
          have hb2 := gb2; clear gb2
          have gr0 := hk' r0 _ hr0 (by first | exact (hown3).nb' hr0 (by decide) | exact ho0 _ _ | assumption | (intro e; simp_all))
          have hr0 := gr0; clear gr0
          have gb3 := hk' b3 _ hb3 (by first | exact (hown3).nb' hb3 (by decide) | exact ho3 _ _ | assumption | (intro e; simp_all))
          have hb3 := gb3; clear gb3
          have hce := hown3'.cells; have hoe := hown3'.one1
          try simp only [emitF, markOf, EM, hce, hoe, Option.bind_some, List.drop, f0, f3, hb2, hr0, hb3, nb2_r0, nr0_b2, nb3_r0, nr0_b3, nb3_b2, nb2_b3, List.length_map, strs, fuV, one_strs, hone, hcls, hone2, hcls2, hone3, hcls3, RR, seval]
          refine hK _ _ ?_; clear hK K
          refine awp_seq ?_
          refine awp_name fun F27 M27 hfr hH => ?_
          have g0 := hfr 0
          have g2 := hfr 2
          have g3 := hfr 3
          have gb2 := hH b2
          have gr0 := hH r0
          have gb3 := hH b3
          try simp only [f0, f2, f3, hb2, hr0, hb3, nb2_r0, nr0_b2, nb3_r0, nr0_b3, nb3_b2, nb2_b3, List.length_map, strs, fuV, one_strs, hone, hcls, hone2, hcls2, hone3, hcls3, RR, seval] at g0 g2 g3 gb2 gr0 gb3
          have ag2 : agree [0, 2, 3] F22 F27 := agree.same hfr (by repeat (first | exact ag2 | refine agree.upd rfl ?_))
          have e2_b2 := (hH b2).trans (by first | exact e2_b2 | (simp only [nb2_r0, nr0_b2, nb3_r0, nr0_b3, nb3_b2, nb2_b3, upd_app, seval]; first | done | exact e2_b2))
          have hown3 : OwnL 5 v17 ((fs ++ [a55]).map Fu.row) M27 := by rw [List.map_append]; exact (hown3'.off ho3' _).same hH
          have ho3 := ho3'
          have f0 := g0; clear g0
          have f2 := g2; clear g2
          have f3 := g3; clear g3
          have hb2 := gb2; clear gb2
          have hr0 := gr0; clear gr0
          have hb3 := gb3; clear gb3
          clear hfr hH
          refine awp_seq_k fun K hK => ?_
          refine awp_region_draw2 (fun x => x ≠ b2 ∧ x ≠ r0 ∧ x ≠ b3) [(0, 3), (1, 3), (2, 3), (3, 1), (4, 3), (5, 3), (6, 3), (7, 3), (8, 1), (9, 3), (10, 3), (11, 3), (12, 1), (13, 3), (14, 3), (15, 3)] [] draws (by kernel_rfl) rfl rfl ?_
          simp only [emitF, markOf, EM, f0, hb2, hr0, hb3, nb2_r0, nr0_b2, nb3_r0, nr0_b3, nb3_b2, nb2_b3, List.length_map, strs, fuV, one_strs, hone, hcls, hone2, hcls2, hone3, hcls3, RR, seval]
          repeat' ((first | refine awpG_splitN (fun h => ?_) (fun h => ?_) | refine awpG_split (fun h => ?_) (fun h => ?_)) <;> simp only [h, f0, f2, f3, hb2, hr0, hb3, nb2_r0, nr0_b2, nb3_r0, nr0_b3, nb3_b2, nb2_b3, List.length_map, strs, fuV, one_strs, hone, hcls, hone2, hcls2, hone3, hcls3, RR, seval])
          all_goals
            refine hK _ _ ?_; clear hK K
            refine awp_if _ rfl (fun hc18 => ?_) (fun hc18 => ?_)
            · try (cases hc18; done)
              all_goals
                have hq : w55 = true ∨ ¬ m55 < T.length := by first | exact .inl h | exact .inr (by have := of_decide_eq_true hc18; omega)
                have hres : stW w55 m55 (PR.ok (⟨vs, ar, fs ++ [a55]⟩ : Pg) m55) = res := by
                  rcases hq with e | e
                  · rw [e] at hres ⊢; exact hres
                  · rw [funsP_eq, if_neg e, PR.bind_ok] at hres; exact hres
                obtain ⟨n2, hn2e⟩ : ∃ n2 : Nat, n2 = m55 := ⟨_, rfl⟩
                rw [← hn2e] at hres hr0
                have hn1 : n ≤ n2 := by omega
                have hn2 : n2 ≤ T.length := by omega
                refine awp_name fun F28 M28 hfr hH => ?_
                have g0 := hfr 0
                have g2 := hfr 2
                have g3 := hfr 3
                have gb2 := hH b2
                have gr0 := hH r0
                have gb3 := hH b3
                try simp only [f0, f2, f3, hb2, hr0, hb3, nb2_r0, nr0_b2, nb3_r0, nr0_b3, nb3_b2, nb2_b3, List.length_map, strs, fuV, one_strs, hone, hcls, hone2, hcls2, hone3, hcls3, RR, seval] at g0 g2 g3 gb2 gr0 gb3
                have ag2 : agree [0, 2, 3] F22 F28 := agree.same hfr (by repeat (first | exact ag2 | refine agree.upd rfl ?_))
                have e2_b2 := (hH b2).trans (by first | exact e2_b2 | (simp only [nb2_r0, nr0_b2, nb3_r0, nr0_b3, nb3_b2, nb2_b3, upd_app, seval]; first | done | exact e2_b2))
                have hown3 := hown3.same hH
                have f0 := g0; clear g0
                have f2 := g2; clear g2
                have f3 := g3; clear g3
                have hb2 := gb2; clear gb2
                have hr0 := gr0; clear gr0
                have hb3 := gb3; clear gb3
                clear hfr hH
                have h0 : M28 b3 = some (.rows 3 [[.isl 1 (vs.map strRow), .isl 2 (ar.map Ar.row)] ++ v17 :: []]) := hb3
                refine awp_sealP hown3 h0 (fun x hx => by simp only [List.mem_cons, List.not_mem_nil, or_false] at hx; rcases hx with rfl | rfl <;> exact noO_flat rfl) (fun x hx => by cases hx) ho3 fun F9b M9b hfF hb3' hbF => ?_
                have f2 := (hfF 2 (by rw [f2]; exact noO_flat rfl)).trans f2
                have f3 := (hfF 3 (by rw [f3]; exact noO_flat rfl)).trans f3
                have hr0 := hbF r0 _ _ nr0_b3 (hown3.offsz hr0 (by decide)) (fun r hr x hx => by simp only [List.mem_singleton] at hr; subst hr; simp only [List.mem_cons, List.not_mem_nil, or_false] at hx; rcases hx with rfl | rfl | rfl <;> exact noO_flat rfl) hr0
                have hb2 := hbF b2 _ _ nb2_b3 (hown3.offsz hb2 (by decide)) (fun r hr x hx => by simp only [List.mem_singleton] at hr; subst hr; simp only [List.mem_cons, List.not_mem_nil, or_false] at hx; rcases hx with rfl | rfl | rfl <;> exact noO_flat rfl) hb2
                have hb3 : M9b b3 = some (.rows 3 [[.isl 1 (vs.map strRow), .isl 2 (ar.map Ar.row), .isl 5 ((fs ++ [a55]).map Fu.row)]]) := hb3'
                clear hb3' h0 hfF hbF
                refine awp_seq_k fun K hK => ?_
                refine awp_region rfl ?_
                simp only [f2, f3, hb2, hr0, hb3, nb2_r0, nr0_b2, nb3_r0, nr0_b3, nb3_b2, nb2_b3, List.length_map, strs, fuV, one_strs, hone, hcls, hone2, hcls2, hone3, hcls3, RR, seval]
                refine hK _ _ ?_; clear hK K
                refine awp_ret ?_; simp only [bodyQ, aresult, ares, f0, f2, f3, hb2, hr0, hb3, nb2_r0, nr0_b2, nb3_r0, nr0_b3, nb3_b2, nb2_b3, List.length_map, strs, fuV, one_strs, hone, hcls, hone2, hcls2, hone3, hcls3, RR, seval]
                refine jgives (by first | exact hr0 | (simp only [f0, f2, f3, hb2, hr0, hb3, nb2_r0, nr0_b2, nb3_r0, nr0_b3, nb3_b2, nb2_b3, List.length_map, strs, fuV, one_strs, hone, hcls, hone2, hcls2, hone3, hcls3, upd_app, RR, seval]; done)) hres ?_ hn1 hn2
                exact Sub.refl _
            · try (cases hc18; done)
              all_goals
                have hwf : w55 = false := by simpa using h
                have hlt : m55 < T.length := by have := of_decide_eq_false hc18; omega
                rw [funs_q T vs ar _ m55 hlt] at hres
                refine awp_skip ?_; try simp only [RR]
                refine awp_region rfl ?_
                simp only [f0, hb2, hr0, hb3, nb2_r0, nr0_b2, nb3_r0, nr0_b3, nb3_b2, nb2_b3, List.length_map, strs, fuV, one_strs, hone, hcls, hone2, hcls2, hone3, hcls3, RR, seval]
                refine awpC_jd (jmust_con r0 hT m55 w55 hlt55 wFunc (by decide)) (by first | exact hr0 | (simp only [f0, f2, f3, hb2, hr0, hb3, nb2_r0, nr0_b2, nb3_r0, nr0_b3, nb3_b2, nb2_b3, List.length_map, strs, fuV, one_strs, hone, hcls, hone2, hcls2, hone3, hcls3, upd_app, RR, seval]; done)) trivial fun a77 m77 w77 M29 hj77 hle77 hlt77 hn77x hk77x => ?_
                have hres := stW_step hres hj77
                have gb2 := hk77x b2 _ (by first | exact nb2_r0 | exact blk_ne hb2 hr0 (by decide) | (intro e; subst e; simp_all)) (by first | exact hb2 | exact upd_same _ _ _ | (simp only [f0, f2, f3, hb2, hr0, hb3, nb2_r0, nr0_b2, nb3_r0, nr0_b3, nb3_b2, nb2_b3, List.length_map, strs, fuV, one_strs, hone, hcls, hone2, hcls2, hone3, hcls3, upd_app, RR, seval]; rfl))
                have e2_b2 := (gb2.trans hb2.symm).trans e2_b2
                have gb3 := hk77x b3 _ (by first | exact nb3_r0 | exact blk_ne hb3 hr0 (by decide) | (intro e; subst e; simp_all)) (by first | exact hb3 | exact upd_same _ _ _ | (simp only [f0, f2, f3, hb2, hr0, hb3, nb2_r0, nr0_b2, nb3_r0, nr0_b3, nb3_b2, nb2_b3, List.length_map, strs, fuV, one_strs, hone, hcls, hone2, hcls2, hone3, hcls3, upd_app, RR, seval]; rfl))
                have hb2 := gb2; clear gb2
                have hb3 := gb3; clear gb3
                have hown3 := OwnL.kp hown3 hr0 (by decide) hk77x
                have hr0 := hn77x; clear hn77x hk77x
                simp only [f0, hb2, hr0, hb3, nb2_r0, nr0_b2, nb3_r0, nr0_b3, nb3_b2, nb2_b3, List.length_map, strs, fuV, one_strs, hone, hcls, hone2, hcls2, hone3, hcls3, RR, seval]
                have hms := msr_lt hwf hlt55 hlt77 hle77 hj77 fun a m' h => by have := must_ok h (by decide); omega
                have hms2 : msr T m55 w55 ≤ msr T m w' := by rw [hwf, hc15]; unfold msr; simp; omega
                have hgo : w77 = false → m55 < m77 := fun e => by
                  rw [e, hwf, stW_f, stW_f] at hj77
                  have := must_ok hj77.symm (by decide); omega
                try rw [IntWalk.i64_in _ (by omega)]
                refine hK2 (msr T m77 w77) _ _ (by omega) ⟨(by first | exact e2_b2 | (simp only [nb2_r0, nr0_b2, nb3_r0, nr0_b3, nb3_b2, nb2_b3, upd_app, seval]; first | done | exact e2_b2)), m77, w77, fs ++ [a55], _, rfl, by omega, hlt77, by simp only [List.length_append, List.length_cons, List.length_nil]; omega, fun e => by have := hgo e; simp only [List.length_append, List.length_cons, List.length_nil]; omega, hres, hown3, hb3, hr0⟩ (by repeat (first | exact ag2 | refine agree.upd rfl ?_))
  · have hw0 := hc; clear hc
    have hwf : w' = true := by simpa using hw0
    have hres : stW w' m (progK T (vs, ar) m) = res := by subst hwf; exact hres
    clear hwf hw0
    refine awp_exit ?_; simp only [RR, seval]
    refine awp_name fun F30 M30 hfr hH => ?_
    have g0 := hfr 0
    have g2 := hfr 2
    have g3 := hfr 3
    have gb2 := hH b2
    have gr0 := hH r0
    have gb3 := hH b3
    try simp only [f0, f2, f3, hb2, hr0, hb3, nb2_r0, nr0_b2, nb3_r0, nr0_b3, nb3_b2, nb2_b3, List.length_map, strs, fuV, one_strs, hone, hcls, hone2, hcls2, RR, seval] at g0 g2 g3 gb2 gr0 gb3
    have hown := hown.same hH
    have hown2 := hown2.same hH
    have f0 := g0; clear g0
    have f2 := g2; clear g2
    have f3 := g3; clear g3
    have hb2 := gb2; clear gb2
    have hr0 := gr0; clear gr0
    have hb3 := gb3; clear gb3
    clear hfr hH
    rw [progK_q] at hres
    have h0 : M30 b3 = some (.rows 3 [[] ++ v1 :: [v2, .nsl]]) := hb3
    refine awp_sealP hown h0 (fun x hx => by cases hx) (fun x hx => by simp only [List.mem_cons, List.not_mem_nil, or_false] at hx; rcases hx with rfl | rfl; exact noO_own hown hown2 (by decide); exact noO_flat rfl) ho3 fun F7a M7a hfF hb3' hbF => ?_
    have f0 := (hfF 0 (by rw [f0]; exact noO_flat rfl)).trans f0
    have f2 := (hfF 2 (by rw [f2]; exact noO_flat rfl)).trans f2
    have f3 := (hfF 3 (by rw [f3]; exact noO_flat rfl)).trans f3
    have hr0 := hbF r0 _ _ nr0_b3 (hown.offsz hr0 (by decide)) (fun r hr x hx => by simp only [List.mem_singleton] at hr; subst hr; simp only [List.mem_cons, List.not_mem_nil, or_false] at hx; rcases hx with rfl | rfl | rfl <;> exact noO_flat rfl) hr0
    have hb2 := hbF b2 _ _ nb2_b3 (hown.offsz hb2 (by decide)) (fun r hr x hx => by simp only [List.mem_singleton] at hr; subst hr; simp only [List.mem_cons, List.not_mem_nil, or_false] at hx; rcases hx with rfl | rfl | rfl <;> exact noO_flat rfl) hb2
    have hown2 := hown2.thru hown (by decide) hb3 (by decide) (flat_ars _) hbF
    have hb3 : M7a b3 = some (.rows 3 [[.isl 1 (vs.map strRow), v2, .nsl]]) := hb3'
    clear hb3' h0 hfF hbF
    have h0 : M7a b3 = some (.rows 3 [[.isl 1 (vs.map strRow)] ++ v2 :: [.nsl]]) := hb3
    refine awp_sealP hown2 h0 (fun x hx => by simp only [List.mem_cons, List.not_mem_nil, or_false] at hx; rcases hx with rfl; exact noO_flat rfl) (fun x hx => by simp only [List.mem_cons, List.not_mem_nil, or_false] at hx; rcases hx with rfl; exact noO_flat rfl) hof2 fun F7b M7b hfF hb3' hbF => ?_
    have f0 := (hfF 0 (by rw [f0]; exact noO_flat rfl)).trans f0
    have f2 := (hfF 2 (by rw [f2]; exact noO_flat rfl)).trans f2
    have f3 := (hfF 3 (by rw [f3]; exact noO_flat rfl)).trans f3
    have hr0 := hbF r0 _ _ nr0_b3 (hown2.offsz hr0 (by decide)) (fun r hr x hx => by simp only [List.mem_singleton] at hr; subst hr; simp only [List.mem_cons, List.not_mem_nil, or_false] at hx; rcases hx with rfl | rfl | rfl <;> exact noO_flat rfl) hr0
    have hb2 := hbF b2 _ _ nb2_b3 (hown2.offsz hb2 (by decide)) (fun r hr x hx => by simp only [List.mem_singleton] at hr; subst hr; simp only [List.mem_cons, List.not_mem_nil, or_false] at hx; rcases hx with rfl | rfl | rfl <;> exact noO_flat rfl) hb2
    have hb3 : M7b b3 = some (.rows 3 [[.isl 1 (vs.map strRow), .isl 2 (ar.map Ar.row), .nsl]]) := hb3'
    clear hb3' h0 hfF hbF
    have ho3 : Al.off AV.nsl b3 := fun _ _ h => by cases h
    refine awp_seq_k fun K hK => ?_
    refine awp_region rfl ?_
    simp only [f0, hb2, hr0, hb3, nb2_r0, nr0_b2, nb3_r0, nr0_b3, nb3_b2, nb2_b3, List.length_map, strs, fuV, one_strs, hone, hcls, hone2, hcls2, RR, seval]
    refine awpC_jd (jmust_con r0 hT m w' hm wFunc (by decide)) (by first | exact hr0 | (simp only [f0, f2, f3, hb2, hr0, hb3, nb2_r0, nr0_b2, nb3_r0, nr0_b3, nb3_b2, nb2_b3, List.length_map, strs, fuV, one_strs, hone, hcls, hone2, hcls2, upd_app, RR, seval]; done)) trivial fun a46 m46 w46 M31 hj46 hle46 hlt46 hn46x hk46x => ?_
    have hres := stW_step hres hj46
    have gb2 := hk46x b2 _ (by first | exact nb2_r0 | exact blk_ne hb2 hr0 (by decide) | (intro e; subst e; simp_all)) (by first | exact hb2 | exact upd_same _ _ _ | (simp only [f0, f2, f3, hb2, hr0, hb3, nb2_r0, nr0_b2, nb3_r0, nr0_b3, nb3_b2, nb2_b3, List.length_map, strs, fuV, one_strs, hone, hcls, hone2, hcls2, upd_app, RR, seval]; rfl))
    have gb3 := hk46x b3 _ (by first | exact nb3_r0 | exact blk_ne hb3 hr0 (by decide) | (intro e; subst e; simp_all)) (by first | exact hb3 | exact upd_same _ _ _ | (simp only [f0, f2, f3, hb2, hr0, hb3, nb2_r0, nr0_b2, nb3_r0, nr0_b3, nb3_b2, nb2_b3, List.length_map, strs, fuV, one_strs, hone, hcls, hone2, hcls2, upd_app, RR, seval]; rfl))
    have hb2 := gb2; clear gb2
    have hb3 := gb3; clear gb3
    have hr0 := hn46x; clear hn46x hk46x
    simp only [f0, hb2, hr0, hb3, nb2_r0, nr0_b2, nb3_r0, nr0_b3, nb3_b2, nb2_b3, List.length_map, strs, fuV, one_strs, hone, hcls, hone2, hcls2, RR, seval]
    refine hK _ _ ?_; clear hK K
    refine awp_name fun F32 M32 hfr hH => ?_
    have g0 := hfr 0
    have g2 := hfr 2
    have g3 := hfr 3
    have gb2 := hH b2
    have gr0 := hH r0
    have gb3 := hH b3
    try simp only [f0, f2, f3, hb2, hr0, hb3, nb2_r0, nr0_b2, nb3_r0, nr0_b3, nb3_b2, nb2_b3, List.length_map, strs, fuV, one_strs, hone, hcls, hone2, hcls2, RR, seval] at g0 g2 g3 gb2 gr0 gb3
    have f0 := g0; clear g0
    have f2 := g2; clear g2
    have f3 := g3; clear g3
    have hb2 := gb2; clear gb2
    have hr0 := gr0; clear gr0
    have hb3 := gb3; clear gb3
    clear hfr hH
    refine awp_block ?_
    refine awp_while [0, 2, 3] (msr T m46 w46) (fun k fr M => M b2 = M32 b2 ∧ (∃ (m : Nat) (w' : Bool) (fs : List Fu) (v : AV), k = msr T m w' ∧ n ≤ m ∧ m ≤ T.length ∧ fs.length ≤ m + 1 ∧ (w' = false → fs.length ≤ m) ∧ stW w' m (progQ T vs ar fs m) = res ∧ OwnL 5 v (fs.map Fu.row) M ∧ M b3 = some (.rows 3 [[.isl 1 (vs.map strRow), .isl 2 (ar.map Ar.row), v]]) ∧ M r0 = some (.rows 3 [[.isl 4 (T.map Tok.row), .int .i64 (m : Nat), .bool w']]))) ⟨rfl, m46, w46, [], .nsl, rfl, by omega, hlt46, Nat.zero_le _, fun _ => Nat.zero_le _, hres, .inl ⟨rfl, rfl⟩, hb3, hr0⟩ ?_
    rintro k F33 M33 ⟨gb2, m, w', fs, v3, rfl, hnm, hm, hfl, hfl2, hres, hown3, hb3, hr0⟩ agx K2 hK2
    have f0 := (agx 0 rfl).trans f0
    have f2 := (agx 2 rfl).trans f2
    have f3 := (agx 3 rfl).trans f3
    have hb2 := gb2.trans hb2
    have ag2 := agree.refl [0, 2, 3] F33
    have e2_b2 := gb2; clear gb2
    clear agx
    have ho3 := hown3.offsz hb3 (by decide)
    have hone3 := hown3.one1
    have hcls3 := hown3.cells
    refine awp_block ?_
    refine awp_seq ?_
    refine awp_seq_k fun K hK => ?_
    refine awp_region rfl ?_
    simp only [f0, hb2, hr0, hb3, nb2_r0, nr0_b2, nb3_r0, nr0_b3, nb3_b2, nb2_b3, List.length_map, strs, fuV, one_strs, hone, hcls, hone2, hcls2, hone3, hcls3, RR, seval]
    refine hK _ _ ?_; clear hK K
    refine awp_if _ rfl (fun hc15 => ?_) (fun hc15 => ?_)
    · have hres : stW w' m (PR.ok (⟨vs, ar, fs⟩ : Pg) m) = res := by rw [hc15] at hres ⊢; exact hres
      obtain ⟨n2, hn2e⟩ : ∃ n2 : Nat, n2 = m := ⟨_, rfl⟩
      rw [← hn2e] at hres hr0
      have hn1 : n ≤ n2 := by omega
      have hn2 : n2 ≤ T.length := by omega
      refine awp_name fun F34 M34 hfr hH => ?_
      have g0 := hfr 0
      have g2 := hfr 2
      have g3 := hfr 3
      have gb2 := hH b2
      have gr0 := hH r0
      have gb3 := hH b3
      try simp only [f0, f2, f3, hb2, hr0, hb3, nb2_r0, nr0_b2, nb3_r0, nr0_b3, nb3_b2, nb2_b3, List.length_map, strs, fuV, one_strs, hone, hcls, hone2, hcls2, hone3, hcls3, RR, seval] at g0 g2 g3 gb2 gr0 gb3
      have ag2 : agree [0, 2, 3] F33 F34 := agree.same hfr (by repeat (first | exact ag2 | refine agree.upd rfl ?_))
      have e2_b2 := (hH b2).trans (by first | exact e2_b2 | (simp only [nb2_r0, nr0_b2, nb3_r0, nr0_b3, nb3_b2, nb2_b3, upd_app, seval]; first | done | exact e2_b2))
      have hown3 := hown3.same hH
      have f0 := g0; clear g0
      have f2 := g2; clear g2
      have f3 := g3; clear g3
      have hb2 := gb2; clear gb2
      have hr0 := gr0; clear gr0
      have hb3 := gb3; clear gb3
      clear hfr hH
      have h0 : M34 b3 = some (.rows 3 [[.isl 1 (vs.map strRow), .isl 2 (ar.map Ar.row)] ++ v3 :: []]) := hb3
      refine awp_sealP hown3 h0 (fun x hx => by simp only [List.mem_cons, List.not_mem_nil, or_false] at hx; rcases hx with rfl | rfl <;> exact noO_flat rfl) (fun x hx => by cases hx) ho3 fun F9a M9a hfF hb3' hbF => ?_
      have f2 := (hfF 2 (by rw [f2]; exact noO_flat rfl)).trans f2
      have f3 := (hfF 3 (by rw [f3]; exact noO_flat rfl)).trans f3
      have hr0 := hbF r0 _ _ nr0_b3 (hown3.offsz hr0 (by decide)) (fun r hr x hx => by simp only [List.mem_singleton] at hr; subst hr; simp only [List.mem_cons, List.not_mem_nil, or_false] at hx; rcases hx with rfl | rfl | rfl <;> exact noO_flat rfl) hr0
      have hb2 := hbF b2 _ _ nb2_b3 (hown3.offsz hb2 (by decide)) (fun r hr x hx => by simp only [List.mem_singleton] at hr; subst hr; simp only [List.mem_cons, List.not_mem_nil, or_false] at hx; rcases hx with rfl | rfl | rfl <;> exact noO_flat rfl) hb2
      have hb3 : M9a b3 = some (.rows 3 [[.isl 1 (vs.map strRow), .isl 2 (ar.map Ar.row), .isl 5 (fs.map Fu.row)]]) := hb3'
      clear hb3' h0 hfF hbF
      refine awp_seq_k fun K hK => ?_
      refine awp_region rfl ?_
      simp only [f2, f3, hb2, hr0, hb3, nb2_r0, nr0_b2, nb3_r0, nr0_b3, nb3_b2, nb2_b3, List.length_map, strs, fuV, one_strs, hone, hcls, hone2, hcls2, hone3, hcls3, RR, seval]
      refine hK _ _ ?_; clear hK K
      refine awp_ret ?_; simp only [bodyQ, aresult, ares, f0, f2, f3, hb2, hr0, hb3, nb2_r0, nr0_b2, nb3_r0, nr0_b3, nb3_b2, nb2_b3, List.length_map, strs, fuV, one_strs, hone, hcls, hone2, hcls2, hone3, hcls3, RR, seval]
      refine jgives (by first | exact hr0 | (simp only [f0, f2, f3, hb2, hr0, hb3, nb2_r0, nr0_b2, nb3_r0, nr0_b3, nb3_b2, nb2_b3, List.length_map, strs, fuV, one_strs, hone, hcls, hone2, hcls2, hone3, hcls3, upd_app, RR, seval]; done)) hres ?_ hn1 hn2
      exact Sub.refl _
    · unfold progQ at hres
      have hfl := hfl2 hc15
      refine awp_skip ?_; try simp only [RR]
      refine awp_name fun F35 M35 hfr hH => ?_
      have g0 := hfr 0
      have g2 := hfr 2
      have g3 := hfr 3
      have gb2 := hH b2
      have gr0 := hH r0
      have gb3 := hH b3
      try simp only [f0, f2, f3, hb2, hr0, hb3, nb2_r0, nr0_b2, nb3_r0, nr0_b3, nb3_b2, nb2_b3, List.length_map, strs, fuV, one_strs, hone, hcls, hone2, hcls2, hone3, hcls3, RR, seval] at g0 g2 g3 gb2 gr0 gb3
      have ag2 : agree [0, 2, 3] F33 F35 := agree.same hfr (by repeat (first | exact ag2 | refine agree.upd rfl ?_))
      have e2_b2 := (hH b2).trans (by first | exact e2_b2 | (simp only [nb2_r0, nr0_b2, nb3_r0, nr0_b3, nb3_b2, nb2_b3, upd_app, seval]; first | done | exact e2_b2))
      have hown3 := hown3.same hH
      have f0 := g0; clear g0
      have f2 := g2; clear g2
      have f3 := g3; clear g3
      have hb2 := gb2; clear gb2
      have hr0 := gr0; clear gr0
      have hb3 := gb3; clear gb3
      clear hfr hH
      refine awp_seq_k fun K hK => ?_
      refine awp_region_draw2 (fun x => x ≠ b3 ∧ x ≠ b2) [(0, 3), (1, 0), (2, 3), (3, 1), (4, 2), (5, 1), (6, 3)] [(7, 1)] draws (by kernel_rfl) rfl rfl ?_
      simp only [emitF, markOf, EM, f0, f3, hb2, hr0, hb3, nb2_r0, nr0_b2, nb3_r0, nr0_b3, nb3_b2, nb2_b3, List.length_map, strs, fuV, one_strs, hone, hcls, hone2, hcls2, hone3, hcls3, RR, seval]
      refine awpC_jd (jfun_con r0 hT m w' hm) (by first | exact hr0 | (simp only [f0, f2, f3, hb2, hr0, hb3, nb2_r0, nr0_b2, nb3_r0, nr0_b3, nb3_b2, nb2_b3, List.length_map, strs, fuV, one_strs, hone, hcls, hone2, hcls2, hone3, hcls3, upd_app, RR, seval]; done)) (by first | trivial | (repeat' apply And.intro) <;> assumption) fun a55 m55 w55 M36 hj55 hle55 hlt55 hn55x hk55x => ?_
      have hres := stW_step hres hj55
      have gb2 := hk55x b2 _ (by first | exact nb2_r0 | exact blk_ne hb2 hr0 (by decide) | (intro e; subst e; simp_all)) (by first | exact hb2 | exact upd_same _ _ _ | (simp only [f0, f2, f3, hb2, hr0, hb3, nb2_r0, nr0_b2, nb3_r0, nr0_b3, nb3_b2, nb2_b3, List.length_map, strs, fuV, one_strs, hone, hcls, hone2, hcls2, hone3, hcls3, upd_app, RR, seval]; rfl))
      have e2_b2 := (gb2.trans hb2.symm).trans e2_b2
      have gb3 := hk55x b3 _ (by first | exact nb3_r0 | exact blk_ne hb3 hr0 (by decide) | (intro e; subst e; simp_all)) (by first | exact hb3 | exact upd_same _ _ _ | (simp only [f0, f2, f3, hb2, hr0, hb3, nb2_r0, nr0_b2, nb3_r0, nr0_b3, nb3_b2, nb2_b3, List.length_map, strs, fuV, one_strs, hone, hcls, hone2, hcls2, hone3, hcls3, upd_app, RR, seval]; rfl))
      have hb2 := gb2; clear gb2
      have hb3 := gb3; clear gb3
      have hown3 := OwnL.kp hown3 hr0 (by decide) hk55x
      have hr0 := hn55x; clear hn55x hk55x
      simp only [emitF, markOf, EM, f0, f3, hb2, hr0, hb3, nb2_r0, nr0_b2, nb3_r0, nr0_b3, nb3_b2, nb2_b3, List.length_map, strs, fuV, one_strs, hone, hcls, hone2, hcls2, hone3, hcls3, RR, seval]
      refine awpA_ownF hown3 (by simp only [List.length_map, List.length_cons, List.length_nil]; omega) (fun b e => by first | trivial | (repeat' apply And.intro) <;> (intro c; subst c; first | exact ho3 _ _ e | exact hown3.nb' hb2 (by decide) e | exact hown3.nb' hr0 (by decide) e)) fun v17 M37 hown3' hk' hg' => ?_
      have ho3' := hg' b3 ho3 (by rw [hb3]; exact Option.some_ne_none _)
      simp only [emitF, markOf, EM, f0, f3, hb2, hr0, hb3, nb2_r0, nr0_b2, nb3_r0, nr0_b3, nb3_b2, nb2_b3, List.length_map, strs, fuV, one_strs, hone, hcls, hone2, hcls2, hone3, hcls3, RR, seval]
      have gb2 := hk' b2 _ hb2 (by first | exact (hown3).nb' hb2 (by decide) | exact ho2 _ _ | assumption | (intro e; simp_all))
      have e2_b2 := (gb2.trans hb2.symm).trans e2_b2
      have hb2 := gb2; clear gb2
      have gr0 := hk' r0 _ hr0 (by first | exact (hown3).nb' hr0 (by decide) | exact ho0 _ _ | assumption | (intro e; simp_all))
      have hr0 := gr0; clear gr0
      have gb3 := hk' b3 _ hb3 (by first | exact (hown3).nb' hb3 (by decide) | exact ho3 _ _ | assumption | (intro e; simp_all))
      have hb3 := gb3; clear gb3
      have hce := hown3'.cells; have hoe := hown3'.one1
      try simp only [emitF, markOf, EM, hce, hoe, Option.bind_some, List.drop, f0, f3, hb2, hr0, hb3, nb2_r0, nr0_b2, nb3_r0, nr0_b3, nb3_b2, nb2_b3, List.length_map, strs, fuV, one_strs, hone, hcls, hone2, hcls2, hone3, hcls3, RR, seval]
      refine hK _ _ ?_; clear hK K
      refine awp_seq ?_
      refine awp_name fun F38 M38 hfr hH => ?_
      have g0 := hfr 0
      have g2 := hfr 2
      have g3 := hfr 3
      have gb2 := hH b2
      have gr0 := hH r0
      have gb3 := hH b3
      try simp only [f0, f2, f3, hb2, hr0, hb3, nb2_r0, nr0_b2, nb3_r0, nr0_b3, nb3_b2, nb2_b3, List.length_map, strs, fuV, one_strs, hone, hcls, hone2, hcls2, hone3, hcls3, RR, seval] at g0 g2 g3 gb2 gr0 gb3
      have ag2 : agree [0, 2, 3] F33 F38 := agree.same hfr (by repeat (first | exact ag2 | refine agree.upd rfl ?_))
      have e2_b2 := (hH b2).trans (by first | exact e2_b2 | (simp only [nb2_r0, nr0_b2, nb3_r0, nr0_b3, nb3_b2, nb2_b3, upd_app, seval]; first | done | exact e2_b2))
      have hown3 : OwnL 5 v17 ((fs ++ [a55]).map Fu.row) M38 := by rw [List.map_append]; exact (hown3'.off ho3' _).same hH
      have ho3 := ho3'
      have f0 := g0; clear g0
      have f2 := g2; clear g2
      have f3 := g3; clear g3
      have hb2 := gb2; clear gb2
      have hr0 := gr0; clear gr0
      have hb3 := gb3; clear gb3
      clear hfr hH
      refine awp_seq_k fun K hK => ?_
      refine awp_region_draw2 (fun x => x ≠ b2 ∧ x ≠ r0 ∧ x ≠ b3) [(0, 3), (1, 3), (2, 3), (3, 1), (4, 3), (5, 3), (6, 3), (7, 3), (8, 1), (9, 3), (10, 3), (11, 3), (12, 1), (13, 3), (14, 3), (15, 3)] [] draws (by kernel_rfl) rfl rfl ?_
      simp only [emitF, markOf, EM, f0, hb2, hr0, hb3, nb2_r0, nr0_b2, nb3_r0, nr0_b3, nb3_b2, nb2_b3, List.length_map, strs, fuV, one_strs, hone, hcls, hone2, hcls2, hone3, hcls3, RR, seval]
      repeat' ((first | refine awpG_splitN (fun h => ?_) (fun h => ?_) | refine awpG_split (fun h => ?_) (fun h => ?_)) <;> simp only [h, f0, f2, f3, hb2, hr0, hb3, nb2_r0, nr0_b2, nb3_r0, nr0_b3, nb3_b2, nb2_b3, List.length_map, strs, fuV, one_strs, hone, hcls, hone2, hcls2, hone3, hcls3, RR, seval])
      all_goals
        refine hK _ _ ?_; clear hK K
        refine awp_if _ rfl (fun hc18 => ?_) (fun hc18 => ?_)
        · try (cases hc18; done)
          all_goals
            have hq : w55 = true ∨ ¬ m55 < T.length := by first | exact .inl h | exact .inr (by have := of_decide_eq_true hc18; omega)
            have hres : stW w55 m55 (PR.ok (⟨vs, ar, fs ++ [a55]⟩ : Pg) m55) = res := by
              rcases hq with e | e
              · rw [e] at hres ⊢; exact hres
              · rw [funsP_eq, if_neg e, PR.bind_ok] at hres; exact hres
            obtain ⟨n2, hn2e⟩ : ∃ n2 : Nat, n2 = m55 := ⟨_, rfl⟩
            rw [← hn2e] at hres hr0
            have hn1 : n ≤ n2 := by omega
            have hn2 : n2 ≤ T.length := by omega
            refine awp_name fun F39 M39 hfr hH => ?_
            have g0 := hfr 0
            have g2 := hfr 2
            have g3 := hfr 3
            have gb2 := hH b2
            have gr0 := hH r0
            have gb3 := hH b3
            try simp only [f0, f2, f3, hb2, hr0, hb3, nb2_r0, nr0_b2, nb3_r0, nr0_b3, nb3_b2, nb2_b3, List.length_map, strs, fuV, one_strs, hone, hcls, hone2, hcls2, hone3, hcls3, RR, seval] at g0 g2 g3 gb2 gr0 gb3
            have ag2 : agree [0, 2, 3] F33 F39 := agree.same hfr (by repeat (first | exact ag2 | refine agree.upd rfl ?_))
            have e2_b2 := (hH b2).trans (by first | exact e2_b2 | (simp only [nb2_r0, nr0_b2, nb3_r0, nr0_b3, nb3_b2, nb2_b3, upd_app, seval]; first | done | exact e2_b2))
            have hown3 := hown3.same hH
            have f0 := g0; clear g0
            have f2 := g2; clear g2
            have f3 := g3; clear g3
            have hb2 := gb2; clear gb2
            have hr0 := gr0; clear gr0
            have hb3 := gb3; clear gb3
            clear hfr hH
            have h0 : M39 b3 = some (.rows 3 [[.isl 1 (vs.map strRow), .isl 2 (ar.map Ar.row)] ++ v17 :: []]) := hb3
            refine awp_sealP hown3 h0 (fun x hx => by simp only [List.mem_cons, List.not_mem_nil, or_false] at hx; rcases hx with rfl | rfl <;> exact noO_flat rfl) (fun x hx => by cases hx) ho3 fun F9b M9b hfF hb3' hbF => ?_
            have f2 := (hfF 2 (by rw [f2]; exact noO_flat rfl)).trans f2
            have f3 := (hfF 3 (by rw [f3]; exact noO_flat rfl)).trans f3
            have hr0 := hbF r0 _ _ nr0_b3 (hown3.offsz hr0 (by decide)) (fun r hr x hx => by simp only [List.mem_singleton] at hr; subst hr; simp only [List.mem_cons, List.not_mem_nil, or_false] at hx; rcases hx with rfl | rfl | rfl <;> exact noO_flat rfl) hr0
            have hb2 := hbF b2 _ _ nb2_b3 (hown3.offsz hb2 (by decide)) (fun r hr x hx => by simp only [List.mem_singleton] at hr; subst hr; simp only [List.mem_cons, List.not_mem_nil, or_false] at hx; rcases hx with rfl | rfl | rfl <;> exact noO_flat rfl) hb2
            have hb3 : M9b b3 = some (.rows 3 [[.isl 1 (vs.map strRow), .isl 2 (ar.map Ar.row), .isl 5 ((fs ++ [a55]).map Fu.row)]]) := hb3'
            clear hb3' h0 hfF hbF
            refine awp_seq_k fun K hK => ?_
            refine awp_region rfl ?_
            simp only [f2, f3, hb2, hr0, hb3, nb2_r0, nr0_b2, nb3_r0, nr0_b3, nb3_b2, nb2_b3, List.length_map, strs, fuV, one_strs, hone, hcls, hone2, hcls2, hone3, hcls3, RR, seval]
            refine hK _ _ ?_; clear hK K
            refine awp_ret ?_; simp only [bodyQ, aresult, ares, f0, f2, f3, hb2, hr0, hb3, nb2_r0, nr0_b2, nb3_r0, nr0_b3, nb3_b2, nb2_b3, List.length_map, strs, fuV, one_strs, hone, hcls, hone2, hcls2, hone3, hcls3, RR, seval]
            refine jgives (by first | exact hr0 | (simp only [f0, f2, f3, hb2, hr0, hb3, nb2_r0, nr0_b2, nb3_r0, nr0_b3, nb3_b2, nb2_b3, List.length_map, strs, fuV, one_strs, hone, hcls, hone2, hcls2, hone3, hcls3, upd_app, RR, seval]; done)) hres ?_ hn1 hn2
            exact Sub.refl _
        · try (cases hc18; done)
          all_goals
            have hwf : w55 = false := by simpa using h
            have hlt : m55 < T.length := by have := of_decide_eq_false hc18; omega
            rw [funs_q T vs ar _ m55 hlt] at hres
            refine awp_skip ?_; try simp only [RR]
            refine awp_region rfl ?_
            simp only [f0, hb2, hr0, hb3, nb2_r0, nr0_b2, nb3_r0, nr0_b3, nb3_b2, nb2_b3, List.length_map, strs, fuV, one_strs, hone, hcls, hone2, hcls2, hone3, hcls3, RR, seval]
            refine awpC_jd (jmust_con r0 hT m55 w55 hlt55 wFunc (by decide)) (by first | exact hr0 | (simp only [f0, f2, f3, hb2, hr0, hb3, nb2_r0, nr0_b2, nb3_r0, nr0_b3, nb3_b2, nb2_b3, List.length_map, strs, fuV, one_strs, hone, hcls, hone2, hcls2, hone3, hcls3, upd_app, RR, seval]; done)) trivial fun a77 m77 w77 M40 hj77 hle77 hlt77 hn77x hk77x => ?_
            have hres := stW_step hres hj77
            have gb2 := hk77x b2 _ (by first | exact nb2_r0 | exact blk_ne hb2 hr0 (by decide) | (intro e; subst e; simp_all)) (by first | exact hb2 | exact upd_same _ _ _ | (simp only [f0, f2, f3, hb2, hr0, hb3, nb2_r0, nr0_b2, nb3_r0, nr0_b3, nb3_b2, nb2_b3, List.length_map, strs, fuV, one_strs, hone, hcls, hone2, hcls2, hone3, hcls3, upd_app, RR, seval]; rfl))
            have e2_b2 := (gb2.trans hb2.symm).trans e2_b2
            have gb3 := hk77x b3 _ (by first | exact nb3_r0 | exact blk_ne hb3 hr0 (by decide) | (intro e; subst e; simp_all)) (by first | exact hb3 | exact upd_same _ _ _ | (simp only [f0, f2, f3, hb2, hr0, hb3, nb2_r0, nr0_b2, nb3_r0, nr0_b3, nb3_b2, nb2_b3, List.length_map, strs, fuV, one_strs, hone, hcls, hone2, hcls2, hone3, hcls3, upd_app, RR, seval]; rfl))
            have hb2 := gb2; clear gb2
            have hb3 := gb3; clear gb3
            have hown3 := OwnL.kp hown3 hr0 (by decide) hk77x
            have hr0 := hn77x; clear hn77x hk77x
            simp only [f0, hb2, hr0, hb3, nb2_r0, nr0_b2, nb3_r0, nr0_b3, nb3_b2, nb2_b3, List.length_map, strs, fuV, one_strs, hone, hcls, hone2, hcls2, hone3, hcls3, RR, seval]
            have hms := msr_lt hwf hlt55 hlt77 hle77 hj77 fun a m' h => by have := must_ok h (by decide); omega
            have hms2 : msr T m55 w55 ≤ msr T m w' := by rw [hwf, hc15]; unfold msr; simp; omega
            have hgo : w77 = false → m55 < m77 := fun e => by
              rw [e, hwf, stW_f, stW_f] at hj77
              have := must_ok hj77.symm (by decide); omega
            try rw [IntWalk.i64_in _ (by omega)]
            refine hK2 (msr T m77 w77) _ _ (by omega) ⟨(by first | exact e2_b2 | (simp only [nb2_r0, nr0_b2, nb3_r0, nr0_b3, nb3_b2, nb2_b3, upd_app, seval]; first | done | exact e2_b2)), m77, w77, fs ++ [a55], _, rfl, by omega, hlt77, by simp only [List.length_append, List.length_cons, List.length_nil]; omega, fun e => by have := hgo e; simp only [List.length_append, List.length_cons, List.length_nil]; omega, hres, hown3, hb3, hr0⟩ (by repeat (first | exact ag2 | refine agree.upd rfl ?_))
end Go.Proofs.YtlpeikljipknoaaDoor
