/- Chapter 18: MeaningNames. -/
import Derived.Test.YtlokndnkpleegaaMn
import Derived.Test.YtlokndnkpleegaaMst
import Derived.Test.YtlokndnkpleegaaAlSf
import Derived.Test.YtlokndnkpleegaaAlDf
set_option linter.unusedSimpArgs false
set_option linter.unusedVariables false
set_option maxRecDepth 10000
namespace Go.Al
def qA (a : Ar) : Ar := ⟨qN a.name, a.size⟩
theorem qA_row (a : Ar) : (qA a).row = [.str (a.name ++ [113]), .int .i64 a.size] := rfl
theorem qP_eq (p : Pg) : qP p = ⟨p.vars.map qN, p.arrs.map qA, qFi (p.funs.length - 1) 0 p.funs⟩ := rfl
theorem qF_row (nm : Str) (f : Fu) : (qF nm f).row = [.str nm, .isl 1 ((f.params.map qN).map strRow), .isl 1 ((f.locs.map qN).map strRow), .bool f.word, .isl 5 ((f.body.map qM).map Sm.row)] := rfl
end Go.Al
namespace Go.Proofs.Ytlokndnkpleegaa
open Go.Al
theorem small_len3 {p : Pg} {inp : Str} (h : smallB p inp = true) : p.vars.length ≤ 20 ∧ p.arrs.length ≤ 10 ∧ p.funs.length ≤ 64 := by
  simp only [smallB, Bool.and_eq_true, decide_eq_true_eq] at h
  have hr := (sound_all h.1.2).1
  simp only [rightP, Bool.and_eq_true, decide_eq_true_eq, List.all_eq_true] at hr
  exact ⟨h.1.1.1.2, h.1.1.2, hr.1.1.2⟩
theorem msumH {f : Fu} : ∀ {l : List Fu}, f ∈ l → cntF f ≤ sumF l
  | x :: l, h => by
    rcases List.mem_cons.1 h with rfl | h
    · simp only [sumF]; omega
    · have := msumH h; simp only [sumF]; omega
set_option maxHeartbeats 4000000 in
theorem MeaningNames_con (p : Pg) (hp : Bulk p) (inp : Str) (w : Int) (hw : 0 ≤ w ∧ w ≤ 255) : PCon env 10 [p.av, .str inp, .int .u8 w] (.bool true) := by
  have hsm := small_con p hp inp
  have hsf := fun h => small_few hp (inp := inp) h
  have hav : p.av = .agg p.row := rfl
  have hrow : p.row = [.isl 1 (p.vars.map strRow), .isl 2 (p.arrs.map Ar.row), .isl 5 (p.funs.map Fu.row)] := rfl
  cases hs : smallB p inp with
  | false =>
    rw [hs] at hsm
    rw [hav, hrow] at *
    refine con_of 104 [.tmp 6] Try.func10 rfl rfl rfl rfl ?_
    refine awp_seq_k fun K hK => ?_
    refine awp_region rfl ?_
    simp only [List.length_map, RR, seval]
    refine awpN_intro fun b3 hn3 => ?_
    simp only [List.length_map, RR, seval]
    refine hK _ _ ?_; clear hK K
    refine awp_seq ?_
    refine awp_seq_k fun K hK => ?_
    refine awp_region rfl ?_
    simp only [List.length_map, RR, seval]
    refine awpC_pure' (hsm) ?_
    simp only [List.length_map, RR, seval]
    refine hK _ _ ?_; clear hK K
    refine awp_if true rfl (fun _ => ?_) (fun hc => by cases hc)
    refine awp_seq_k fun K hK => ?_
    refine awp_region rfl ?_
    simp only [List.length_map, RR, seval]
    refine awpC_pure' (awake_con) ?_
    simp only [List.length_map, RR, seval]
    refine hK _ _ ?_; clear hK K
    refine awp_ret ?_; simp only [bodyQ, aresult, ares, List.length_map, RR, seval]
    refine Gives.pure ?_
    rfl
  | true =>
    rw [hs] at hsm
    obtain ⟨hf, h0, hin⟩ := hsf hs
    obtain ⟨hvl, hal, hfl⟩ := small_len3 hs
    have hok := sound_ok hf h0
    have hf1 := hok.f1
    have hnm := sound_nm h0
    have hqf := q_few hf hnm
    have hq := rSound_con (qP p) hqf
    obtain ⟨n, hn⟩ := Int.eq_ofNat_of_zero_le hw.1
    subst hn
    have ha2 := hw.2
    obtain ⟨k1, ⟨x1, o1, t1⟩, r1⟩ := sound_run h0 inp (n : Int)
    have c1 := Run_con p hok inp (by omega) (n : Int) ⟨by omega, by omega⟩ r1
    have c2 := fun hz : soundT (qP p) = 0 => Run_con (qP p) (sound_ok hqf hz) inp (by omega) (n : Int) ⟨by omega, by omega⟩ (q_run h0 inp (n : Int) r1)
    have e1 : IntKind.wrap .i64 (n : Int) = (n : Int) := by rw [IntWalk.i64_in _ (by omega)]
    have e2 : IntKind.wrap .i64 ((p.funs.length : Int) - 1) = ((p.funs.length - 1 : Nat) : Int) := by rw [IntWalk.i64_in _ (by omega)]; omega
    have hqv : (qP p).av = .agg [.isl 1 ((p.vars.map qN).map strRow), .isl 2 ((p.arrs.map qA).map Ar.row), .isl 5 ((qFi (p.funs.length - 1) 0 p.funs).map Fu.row)] := rfl
    have hvn := qnames_con p.vars (by omega) hnm.v
    have hfb : ∀ f ∈ p.funs, cntF f ≤ 120 := fun f hf => by
      have hz : sizP p ≤ 120 := by simp only [smallB, Bool.and_eq_true, decide_eq_true_eq] at hs; exact hs.2
      have := msumH hf
      simp only [sizP] at hz
      omega
    clear r1 hok hf h0 hsf hqf
    rw [hav, hrow] at hsm c1
    rw [hqv] at hq c2
    simp only [resV] at c1 c2
    rw [hav, hrow]
    clear hav hrow hqv
    have hlm : p.funs.length - 1 < p.funs.length := by omega
    generalize hm1 : p.funs.length - 1 = m1 at *
    generalize soundT (qP p) = z at *
    refine con_of 104 [.tmp 6] Try.func10 rfl rfl rfl rfl ?_
    refine awp_seq_k fun K hK => ?_
    refine awp_region rfl ?_
    simp only [List.length_map, e1, e2, RR, seval]
    refine awpN_intro fun b3 hn3 => ?_
    simp only [List.length_map, e1, e2, RR, seval]
    refine hK _ _ ?_; clear hK K
    refine awp_seq ?_
    refine awp_seq_k fun K hK => ?_
    refine awp_region rfl ?_
    simp only [List.length_map, e1, e2, RR, seval]
    refine awpC_pure' (hsm) ?_
    simp only [List.length_map, e1, e2, RR, seval]
    refine hK _ _ ?_; clear hK K
    refine awp_if false rfl (fun hc => by cases hc) (fun _ => ?_)
    refine awp_skip ?_; try simp only [RR]
    refine awp_seq_k fun K hK => ?_
    refine awp_region rfl ?_
    simp only [List.length_map, e1, e2, RR, seval]
    refine awpC_pure' (hvn) ?_
    simp only [List.length_map, e1, e2, RR, seval]
    refine awpN_intro fun b7 hn7 => ?_
    have nb7_b3 : b7 ≠ b3 := fun e => by rw [e] at hn7; simp only [List.length_map, e1, e2, RR, seval, reduceCtorEq] at hn7
    have nb3_b7 : b3 ≠ b7 := fun e => nb7_b3 e.symm
    simp only [nb7_b3, nb3_b7, List.length_map, e1, e2, RR, seval]
    refine hK _ _ ?_; clear hK K
    refine awp_seq ?_
    refine awp_seq_k fun K hK => ?_
    refine awp_region rfl ?_
    simp only [nb7_b3, nb3_b7, List.length_map, e1, e2, RR, seval]
    refine hK _ _ ?_; clear hK K
    refine awp_name fun F1 M1 hfr hH => ?_
    have g1 := hfr 1
    have g2 := hfr 2
    have g3 := hfr 3
    have g6 := hfr 6
    have g7 := hfr 7
    have g8 := hfr 8
    have gb3 := hH b3
    have gb7 := hH b7
    try simp only [nb7_b3, nb3_b7, List.length_map, e1, e2, RR, seval] at g1 g2 g3 g6 g7 g8 gb3 gb7
    have f1 := g1; clear g1
    have f2 := g2; clear g2
    have f3 := g3; clear g3
    have f6 := g6; clear g6
    have f7 := g7; clear g7
    have f8 := g8; clear g8
    have hb3 := gb3; clear gb3
    have hb7 := gb7; clear gb7
    clear hfr hH
    refine awp_block ?_
    refine awp_each [1, 2, 3, 6, 7] (p.arrs.length) (fun k fr M => fr 8 = .int .i64 (k : Nat) ∧ M b3 = M1 b3 ∧ ∃ v, M b7 = some (.rows 3 [[.isl 1 ((p.vars.map qN).map strRow), v, .nsl]]) ∧ OwnL 2 v (((p.arrs.take k).map qA).map Ar.row) M ∧ Al.off v b3 ∧ Al.off v b7) ⟨f8, rfl, .nsl, hb7, .inl ⟨rfl, rfl⟩, (fun _ _ h => by cases h), (fun _ _ h => by cases h)⟩ ?_
    rintro k F2 M2 hk0 ⟨fx, gb3, v1, hb7, hown, ho3, ho7⟩ agx K0 hK0
    have f1 := (agx 1 rfl).trans f1
    have f2 := (agx 2 rfl).trans f2
    have f3 := (agx 3 rfl).trans f3
    have f6 := (agx 6 rfl).trans f6
    have f7 := (agx 7 rfl).trans f7
    have f8 := fx; clear fx
    have hb3 := gb3.trans hb3
    have ag0 := agree.refl [1, 2, 3, 6, 7] F2
    have e0_b3 := gb3; clear gb3
    clear agx
    refine awp_seq ?_
    refine awp_seq_k fun K hK => ?_
    refine awp_region rfl ?_
    simp only [f1, f2, f3, f6, f7, f8, hb3, hb7, nb7_b3, nb3_b7, List.length_map, e1, e2, RR, seval]
    refine hK _ _ ?_; clear hK K
    refine awp_if _ rfl (fun hc => ?_) (fun hc => ?_)
    · have hlt0 : k < p.arrs.length := by have := of_decide_eq_true hc; omega
      clear hc
      have hg := getA (List.getElem?_eq_getElem hlt0)
      have htk : p.arrs.take (k + 1) = p.arrs.take k ++ [p.arrs[k]] := List.take_succ_eq_append_getElem hlt0
      have htl : (p.arrs.take k).length ≤ p.arrs.length := by rw [List.length_take]; omega
      have hrn := renamed_con _ (hnm.a _ (List.getElem_mem hlt0))
      generalize p.arrs[k] = a at hg htk hrn
      refine awp_skip ?_; try simp only [RR]
      refine awp_seq ?_
      refine awp_block ?_
      refine awp_region_draw2 (fun x => x ≠ b3 ∧ x ≠ b7) [(0, 3), (1, 0), (2, 3), (3, 1), (4, 3), (5, 3), (6, 3), (7, 1), (9, 3), (10, 0), (11, 3), (12, 3), (13, 3), (14, 0), (8, 1), (15, 3), (16, 2), (17, 1), (18, 3)] [(19, 1)] draws (by kernel_rfl) rfl rfl ?_
      simp only [emitF, markOf, touch_mp, touch_imp, touch_nmp, ne_eq, not_true_eq_false, and_false, false_and, not_false_eq_true, f1, f2, f3, f6, f7, f8, hb3, hb7, nb7_b3, nb3_b7, List.length_map, e1, e2, hg, RR, seval]
      refine awpC_pure' (hrn) ?_
      simp only [emitF, markOf, touch_mp, touch_imp, touch_nmp, ne_eq, not_true_eq_false, and_false, false_and, not_false_eq_true, f1, f2, f3, f6, f7, f8, hb3, hb7, nb7_b3, nb3_b7, List.length_map, e1, e2, hg, RR, seval]
      refine awpA_ownF hown (by simp only [List.length_map, List.length_cons, List.length_nil]; omega) (fun b e => by first | trivial | (repeat' apply And.intro) <;> (intro c; subst c; first | exact ho3 _ _ e | exact ho7 _ _ e )) fun v7 M3 hown' hk' hg' => ?_
      have ho3' := hg' b3 ho3 (by rw [hb3]; exact Option.some_ne_none _)
      have ho7' := hg' b7 ho7 (by rw [hb7]; exact Option.some_ne_none _)
      simp only [emitF, markOf, touch_mp, touch_imp, touch_nmp, ne_eq, not_true_eq_false, and_false, false_and, not_false_eq_true, f1, f2, f3, f6, f7, f8, hb3, hb7, nb7_b3, nb3_b7, List.length_map, e1, e2, hg, RR, seval]
      have gb3 := hk' b3 _ hb3 (by first | exact (hown).nb' hb3 (by decide) | exact ho3 _ _ | assumption | (intro e; simp_all))
      have e0_b3 := (gb3.trans hb3.symm).trans e0_b3
      have hb3 := gb3; clear gb3
      have gb7 := hk' b7 _ hb7 (by first | exact (hown).nb' hb7 (by decide) | exact ho7 _ _ | assumption | (intro e; simp_all))
      have hb7 := gb7; clear gb7
      have hce := hown'.cells; have hoe := hown'.one1
      try simp only [emitF, markOf, touch_mp, touch_imp, touch_nmp, ne_eq, not_true_eq_false, and_false, false_and, not_false_eq_true, hce, hoe, Option.bind_some, List.drop, f1, f2, f3, f6, f7, f8, hb3, hb7, nb7_b3, nb3_b7, List.length_map, e1, e2, hg, RR, seval]
      refine awp_region rfl ?_
      simp only [f1, f2, f3, f6, f7, f8, hb3, hb7, nb7_b3, nb3_b7, List.length_map, e1, e2, hg, RR, seval]
      try rw [IntWalk.i64_in _ (by omega)]
      refine hK0 _ _ hlt0 ⟨by first | rfl | (simp only [upd_app, seval]; rfl), (by first | exact e0_b3 | (simp only [nb7_b3, nb3_b7, upd_app, seval]; first | done | exact e0_b3)), _, upd_same _ _ _, (by rw [htk, List.map_append, List.map_append, List.map_singleton, List.map_singleton, qA_row]; exact hown'.off ho7' _), ho3', ho7'⟩ (by repeat (first | exact ag0 | refine agree.upd rfl ?_))
    · have hkn0 : k = p.arrs.length := by have := of_decide_eq_false hc; omega
      clear hc
      rw [hkn0, List.take_length] at hown
      refine awp_exit ?_; simp only [RR, seval]
      refine awp_seq ?_
      refine awp_name fun F4 M4 hfr hH => ?_
      have g1 := hfr 1
      have g2 := hfr 2
      have g3 := hfr 3
      have g6 := hfr 6
      have g7 := hfr 7
      have gb3 := hH b3
      have gb7 := hH b7
      try simp only [f1, f2, f3, f6, f7, f8, hb3, hb7, nb7_b3, nb3_b7, List.length_map, e1, e2, RR, seval] at g1 g2 g3 g6 g7 gb3 gb7
      have hown := hown.same hH
      have f1 := g1; clear g1
      have f2 := g2; clear g2
      have f3 := g3; clear g3
      have f6 := g6; clear g6
      have f7 := g7; clear g7
      have hb3 := gb3; clear gb3
      have hb7 := gb7; clear gb7
      clear hfr hH
      have h0 : M4 b7 = some (.rows 3 [[AV.isl 1 ((p.vars.map qN).map strRow)] ++ v1 :: [.nsl]]) := hb7
      refine awp_sealP hown h0 (fun x hx => by simp only [List.mem_singleton] at hx; subst hx; exact noO_flat rfl) (fun x hx => by simp only [List.mem_singleton] at hx; subst hx; exact noO_flat rfl) ho7 fun F8 M8 hfF hb7' hbF => ?_
      have f1 := (hfF 1 (by rw [f1]; exact noO_flat rfl)).trans f1
      have f2 := (hfF 2 (by rw [f2]; exact noO_flat rfl)).trans f2
      have f3 := (hfF 3 (by rw [f3]; exact noO_flat rfl)).trans f3
      have f6 := (hfF 6 (by rw [f6]; exact noO_flat rfl)).trans f6
      have f7 := (hfF 7 (by rw [f7]; exact noO_flat rfl)).trans f7
      have hb3 := hbF b3 _ _ nb3_b7 ho3 (fun r hr x hx => by simp only [List.mem_singleton] at hr; subst hr; simp only [List.mem_cons, List.not_mem_nil, or_false] at hx; rcases hx with rfl | rfl | rfl <;> exact noO_flat rfl) hb3
      have hb7 : M8 b7 = some (.rows 3 [[.isl 1 ((p.vars.map qN).map strRow), .isl 2 ((p.arrs.map qA).map Ar.row), .nsl]]) := hb7'
      refine awp_seq_k fun K hK => ?_
      refine awp_region rfl ?_
      simp only [f1, f2, f3, f6, f7, hb3, hb7, nb7_b3, nb3_b7, List.length_map, e1, e2, RR, seval]
      refine hK _ _ ?_; clear hK K
      refine awp_name fun F5 M5 hfr hH => ?_
      have g1 := hfr 1
      have g2 := hfr 2
      have g3 := hfr 3
      have g6 := hfr 6
      have g7 := hfr 7
      have g9 := hfr 9
      have gb3 := hH b3
      have gb7 := hH b7
      try simp only [f1, f2, f3, f6, f7, hb3, hb7, nb7_b3, nb3_b7, List.length_map, e1, e2, RR, seval] at g1 g2 g3 g6 g7 g9 gb3 gb7
      have f1 := g1; clear g1
      have f2 := g2; clear g2
      have f3 := g3; clear g3
      have f6 := g6; clear g6
      have f7 := g7; clear g7
      have f9 := g9; clear g9
      have hb3 := gb3; clear gb3
      have hb7 := gb7; clear gb7
      clear hfr hH
      refine awp_block ?_
      refine awp_each [1, 2, 3, 6, 7] (p.funs.length) (fun j fr M => fr 9 = .int .i64 (j : Nat) ∧ M b3 = M5 b3 ∧ ∃ v, M b7 = some (.rows 3 [[.isl 1 ((p.vars.map qN).map strRow), .isl 2 ((p.arrs.map qA).map Ar.row), v]]) ∧ OwnL 5 v ((qFi m1 0 (p.funs.take j)).map Fu.row) M ∧ Al.off v b3 ∧ Al.off v b7) ⟨f9, rfl, .nsl, hb7, .inl ⟨rfl, rfl⟩, (fun _ _ h => by cases h), (fun _ _ h => by cases h)⟩ ?_
      rintro j F6 M6 hk2 ⟨fx, gb3, v2, hb7, hown, ho3, ho7⟩ agx K2 hK2
      have f1 := (agx 1 rfl).trans f1
      have f2 := (agx 2 rfl).trans f2
      have f3 := (agx 3 rfl).trans f3
      have f6 := (agx 6 rfl).trans f6
      have f7 := (agx 7 rfl).trans f7
      have f9 := fx; clear fx
      have hb3 := gb3.trans hb3
      have ag2 := agree.refl [1, 2, 3, 6, 7] F6
      have e2_b3 := gb3; clear gb3
      clear agx
      refine awp_seq ?_
      refine awp_seq_k fun K hK => ?_
      refine awp_region rfl ?_
      simp only [f1, f2, f3, f6, f7, f9, hb3, hb7, nb7_b3, nb3_b7, List.length_map, e1, e2, RR, seval]
      refine hK _ _ ?_; clear hK K
      refine awp_if _ rfl (fun hc => ?_) (fun hc => ?_)
      · have hlt2 : j < p.funs.length := by have := of_decide_eq_true hc; omega
        clear hc
        have hg := getF (List.getElem?_eq_getElem hlt2)
        have htk := qFi_take m1 p.funs 0 j _ (List.getElem?_eq_getElem hlt2)
        have htl : (qFi m1 0 (p.funs.take j)).length ≤ p.funs.length := by rw [qFi_len, List.length_take]; omega
        have hmem := List.getElem_mem hlt2
        have hrn := renamed_con _ (hnm.n _ hmem)
        have hpn := qnames_con p.funs[j].params (by have := hfb _ hmem; unfold cntF at this; omega) (hnm.pr _ hmem)
        have hln := qnames_con p.funs[j].locs (by have := hfb _ hmem; unfold cntF at this; omega) (hnm.lo _ hmem)
        have hbn := qstmts_con 1000000 p.funs[j].body (by have := hfb _ hmem; unfold cntF at this; omega) (Nat.le_refl _) (hnm.b _ hmem)
        clear hmem
        generalize p.funs[j] = f at hg htk hrn hpn hln hbn
        have hz : decide ((j : Int) < (m1 : Int)) = decide (0 + j < m1) := by congr 1; apply propext; omega
        have hqr := qF_row (if 0 + j < m1 then qN f.name else f.name) f
        generalize hnmq : (if 0 + j < m1 then qN f.name else f.name) = nm at htk hqr
        refine awp_skip ?_; try simp only [RR]
        refine awp_seq ?_
        refine awp_block ?_
        refine awp_seq_k fun K hK => ?_
        refine awp_region rfl ?_
        simp only [f1, f2, f3, f6, f7, f9, hb3, hb7, nb7_b3, nb3_b7, List.length_map, e1, e2, hg, RR, seval]
        refine awpN_intro fun b10 hn10 => ?_
        have nb10_b3 : b10 ≠ b3 := fun e => by rw [e] at hn10; simp only [f1, f2, f3, f6, f7, f9, hb3, hb7, nb7_b3, nb3_b7, List.length_map, e1, e2, hg, RR, seval, reduceCtorEq] at hn10
        have nb3_b10 : b3 ≠ b10 := fun e => nb10_b3 e.symm
        have nb10_b7 : b10 ≠ b7 := fun e => by rw [e] at hn10; simp only [f1, f2, f3, f6, f7, f9, hb3, hb7, nb7_b3, nb3_b7, List.length_map, e1, e2, hg, RR, seval, reduceCtorEq] at hn10
        have nb7_b10 : b7 ≠ b10 := fun e => nb10_b7 e.symm
        simp only [f1, f2, f3, f6, f7, f9, hb3, hb7, nb7_b3, nb3_b7, nb10_b3, nb3_b10, nb10_b7, nb7_b10, List.length_map, e1, e2, hg, RR, seval]
        refine hK _ _ ?_; clear hK K
        have ho10 := hown.new (b := b10) hn10
        refine awp_seq ?_
        refine awp_seq_k fun K hK => ?_
        refine awp_region rfl ?_
        simp only [f1, f2, f3, f6, f7, f9, hb3, hb7, nb7_b3, nb3_b7, nb10_b3, nb3_b10, nb10_b7, nb7_b10, List.length_map, e1, e2, hg, RR, seval]
        refine hK _ _ ?_; clear hK K
        refine awp_name fun F7 M7 hfr hH => ?_
        have g1 := hfr 1
        have g2 := hfr 2
        have g3 := hfr 3
        have g6 := hfr 6
        have g7 := hfr 7
        have g9 := hfr 9
        have g10 := hfr 10
        have g63 := hfr 63
        have gb3 := hH b3
        have gb7 := hH b7
        have gb10 := hH b10
        try simp only [f1, f2, f3, f6, f7, f9, hb3, hb7, nb7_b3, nb3_b7, nb10_b3, nb3_b10, nb10_b7, nb7_b10, List.length_map, e1, e2, hg, RR, seval] at g1 g2 g3 g6 g7 g9 g10 g63 gb3 gb7 gb10
        have ag2 : agree [1, 2, 3, 6, 7] F6 F7 := agree.same hfr (by repeat (first | exact ag2 | refine agree.upd rfl ?_))
        have e2_b3 := (hH b3).trans (by first | exact e2_b3 | (simp only [nb7_b3, nb3_b7, nb10_b3, nb3_b10, nb10_b7, nb7_b10, upd_app, seval]; first | done | exact e2_b3))
        have hown := OwnL.same (sz := 5) (v := v2) (rows := (qFi m1 0 (p.funs.take j)).map Fu.row) (by repeat (first | exact hown | refine OwnL.off ?_ ho10 _)) hH
        have f1 := g1; clear g1
        have f2 := g2; clear g2
        have f3 := g3; clear g3
        have f6 := g6; clear g6
        have f7 := g7; clear g7
        have f9 := g9; clear g9
        have f10 := g10; clear g10
        have f63 := g63; clear g63
        have hb3 := gb3; clear gb3
        have hb7 := gb7; clear gb7
        have hb10 := gb10; clear gb10
        clear hfr hH
        refine awp_cutP (fun fr M => agree [1, 2, 3, 6, 7, 9, 10] F7 fr ∧ M b3 = M7 b3 ∧ M b7 = M7 b7 ∧ M b10 = some (.rows 5 [[.str nm, .isl 1 (f.params.map strRow), .isl 1 (f.locs.map strRow), .bool f.word, .isl 5 (f.body.map Sm.row)]]) ∧ OwnL 5 v2 ((qFi m1 0 (p.funs.take j)).map Fu.row) M) (fun KC12 hKC12 => ?_) ?_
        · have agC12 := agree.refl [1, 2, 3, 6, 7, 9, 10] F7
          have eC12_b3 : M7 b3 = M7 b3 := rfl
          have eC12_b7 : M7 b7 = M7 b7 := rfl
          refine awp_if _ (by first | rfl | exact f63) (fun hc12 => ?_) (fun hc12 => ?_)
          · refine awp_region rfl ?_
            simp only [f1, f2, f3, f6, f7, f9, f10, f63, hb3, hb7, hb10, nb7_b3, nb3_b7, nb10_b3, nb3_b10, nb10_b7, nb7_b10, List.length_map, e1, e2, hg, RR, seval]
            refine awpC_pure' (hrn) ?_
            simp only [f1, f2, f3, f6, f7, f9, f10, f63, hb3, hb7, hb10, nb7_b3, nb3_b7, nb10_b3, nb3_b10, nb10_b7, nb7_b10, List.length_map, e1, e2, hg, RR, seval]
            refine hKC12 _ _ ⟨(by repeat (first | exact agC12 | refine agree.upd rfl ?_)), (by first | exact eC12_b3 | (simp only [nb7_b3, nb3_b7, nb10_b3, nb3_b10, nb10_b7, nb7_b10, upd_app, seval]; first | done | exact eC12_b3)), (by first | exact eC12_b7 | (simp only [nb7_b3, nb3_b7, nb10_b3, nb3_b10, nb10_b7, nb7_b10, upd_app, seval]; first | done | exact eC12_b7)), ?_, (by repeat (first | exact hown | refine OwnL.off ?_ ho10 _))⟩
            (subst hnmq; simp_all [upd, qN])
          · refine awp_skip ?_; try simp only [RR]
            refine hKC12 _ _ ⟨(by repeat (first | exact agC12 | refine agree.upd rfl ?_)), (by first | exact eC12_b3 | (simp only [nb7_b3, nb3_b7, nb10_b3, nb3_b10, nb10_b7, nb7_b10, upd_app, seval]; first | done | exact eC12_b3)), (by first | exact eC12_b7 | (simp only [nb7_b3, nb3_b7, nb10_b3, nb3_b10, nb10_b7, nb7_b10, upd_app, seval]; first | done | exact eC12_b7)), ?_, (by repeat (first | exact hown | refine OwnL.off ?_ ho10 _))⟩
            (subst hnmq; simp_all [upd, qN])
        rintro F8 M8 ⟨agx, gb3, gb7, hb10, hown⟩
        have f1 := (agx 1 rfl).trans f1
        have f2 := (agx 2 rfl).trans f2
        have f3 := (agx 3 rfl).trans f3
        have f6 := (agx 6 rfl).trans f6
        have f7 := (agx 7 rfl).trans f7
        have f9 := (agx 9 rfl).trans f9
        have f10 := (agx 10 rfl).trans f10
        have hb3 := gb3.trans hb3
        have hb7 := gb7.trans hb7
        have ag2 : agree [1, 2, 3, 6, 7] F6 F8 := agree.sub agx rfl ag2
        have e2_b3 := gb3.trans e2_b3
        clear agx
        clear gb3
        clear gb7
        simp only [RR, seval]
        refine awp_seq_k fun K hK => ?_
        refine awp_region_draw2 (fun x => x ≠ b3 ∧ x ≠ b7 ∧ x ≠ b10) [(0, 3), (1, 1), (3, 3), (4, 0), (6, 3), (7, 0), (2, 1), (9, 3), (5, 1), (8, 1)] [(10, 1), (11, 3), (12, 1), (13, 3), (14, 1)] draws (by kernel_rfl) rfl rfl ?_
        simp only [emitF, markOf, touch_mp, touch_imp, touch_nmp, ne_eq, not_true_eq_false, and_false, false_and, not_false_eq_true, f1, f2, f3, f6, f7, f9, f10, hb3, hb7, hb10, nb7_b3, nb3_b7, nb10_b3, nb3_b10, nb10_b7, nb7_b10, List.length_map, e1, e2, hg, RR, seval]
        refine awpC_pure' (hpn) ?_
        simp only [emitF, markOf, touch_mp, touch_imp, touch_nmp, ne_eq, not_true_eq_false, and_false, false_and, not_false_eq_true, f1, f2, f3, f6, f7, f9, f10, hb3, hb7, hb10, nb7_b3, nb3_b7, nb10_b3, nb3_b10, nb10_b7, nb7_b10, List.length_map, e1, e2, hg, RR, seval]
        refine awpC_pure' (hln) ?_
        simp only [emitF, markOf, touch_mp, touch_imp, touch_nmp, ne_eq, not_true_eq_false, and_false, false_and, not_false_eq_true, f1, f2, f3, f6, f7, f9, f10, hb3, hb7, hb10, nb7_b3, nb3_b7, nb10_b3, nb3_b10, nb10_b7, nb7_b10, List.length_map, e1, e2, hg, RR, seval]
        refine awpC_pure' (hbn) ?_
        simp only [emitF, markOf, touch_mp, touch_imp, touch_nmp, ne_eq, not_true_eq_false, and_false, false_and, not_false_eq_true, f1, f2, f3, f6, f7, f9, f10, hb3, hb7, hb10, nb7_b3, nb3_b7, nb10_b3, nb3_b10, nb10_b7, nb7_b10, List.length_map, e1, e2, hg, RR, seval]
        refine hK _ _ ?_; clear hK K
        refine awp_name fun F9 M9 hfr hH => ?_
        have g1 := hfr 1
        have g2 := hfr 2
        have g3 := hfr 3
        have g6 := hfr 6
        have g7 := hfr 7
        have g9 := hfr 9
        have g10 := hfr 10
        have gb3 := hH b3
        have gb7 := hH b7
        have gb10 := hH b10
        try simp only [f1, f2, f3, f6, f7, f9, f10, hb3, hb7, hb10, nb7_b3, nb3_b7, nb10_b3, nb3_b10, nb10_b7, nb7_b10, List.length_map, e1, e2, hg, RR, seval] at g1 g2 g3 g6 g7 g9 g10 gb3 gb7 gb10
        have ag2 : agree [1, 2, 3, 6, 7] F6 F9 := agree.same hfr (by repeat (first | exact ag2 | refine agree.upd rfl ?_))
        have e2_b3 := (hH b3).trans (by first | exact e2_b3 | (simp only [nb7_b3, nb3_b7, nb10_b3, nb3_b10, nb10_b7, nb7_b10, upd_app, seval]; first | done | exact e2_b3))
        have hown := OwnL.same (sz := 5) (v := v2) (rows := (qFi m1 0 (p.funs.take j)).map Fu.row) (by repeat (first | exact hown | refine OwnL.off ?_ ho10 _)) hH
        have f1 := g1; clear g1
        have f2 := g2; clear g2
        have f3 := g3; clear g3
        have f6 := g6; clear g6
        have f7 := g7; clear g7
        have f9 := g9; clear g9
        have f10 := g10; clear g10
        have hb3 := gb3; clear gb3
        have hb7 := gb7; clear gb7
        have hb10 := gb10; clear gb10
        clear hfr hH
        refine awp_region rfl ?_
        simp only [f1, f2, f3, f6, f7, f9, f10, hb3, hb7, hb10, nb7_b3, nb3_b7, nb10_b3, nb3_b10, nb10_b7, nb7_b10, List.length_map, e1, e2, hg, RR, seval]
        refine awpB_sealed ?_
        simp only [f1, f2, f3, f6, f7, f9, f10, hb3, hb7, hb10, nb7_b3, nb3_b7, nb10_b3, nb3_b10, nb10_b7, nb7_b10, List.length_map, e1, e2, hg, RR, seval]
        refine awpA_ownF hown (by simp only [List.length_map, List.length_cons, List.length_nil]; omega) (fun b e => by first | trivial | (repeat' apply And.intro) <;> (intro c; subst c; first | exact ho3 _ _ e | exact ho7 _ _ e | exact ho10 _ _ e )) fun v15 M10 hown' hk' hg' => ?_
        have ho3' := hg' b3 ho3 (by rw [hb3]; exact Option.some_ne_none _)
        have ho7' := hg' b7 ho7 (by rw [hb7]; exact Option.some_ne_none _)
        have ho10' := hg' b10 ho10 (by rw [hb10]; exact Option.some_ne_none _)
        simp only [f1, f2, f3, f6, f7, f9, f10, hb3, hb7, hb10, nb7_b3, nb3_b7, nb10_b3, nb3_b10, nb10_b7, nb7_b10, List.length_map, e1, e2, hg, RR, seval]
        have gb3 := hk' b3 _ hb3 (by first | exact (hown).nb' hb3 (by decide) | exact ho3 _ _ | assumption | (intro e; simp_all))
        have e2_b3 := (gb3.trans hb3.symm).trans e2_b3
        have hb3 := gb3; clear gb3
        have gb7 := hk' b7 _ hb7 (by first | exact (hown).nb' hb7 (by decide) | exact ho7 _ _ | assumption | (intro e; simp_all))
        have hb7 := gb7; clear gb7
        have gb10 := hk' b10 _ hb10 (by first | exact (hown).nb' hb10 (by decide) | exact ho10 _ _ | assumption | (intro e; simp_all))
        have hb10 := gb10; clear gb10
        have hce := hown'.cells; have hoe := hown'.one1
        try simp only [hce, hoe, Option.bind_some, List.drop, f1, f2, f3, f6, f7, f9, f10, hb3, hb7, hb10, nb7_b3, nb3_b7, nb10_b3, nb3_b10, nb10_b7, nb7_b10, List.length_map, e1, e2, hg, RR, seval]
        refine awp_region rfl ?_
        simp only [f1, f2, f3, f6, f7, f9, f10, hb3, hb7, hb10, nb7_b3, nb3_b7, nb10_b3, nb3_b10, nb10_b7, nb7_b10, List.length_map, e1, e2, hg, RR, seval]
        try rw [IntWalk.i64_in _ (by omega)]
        refine hK2 _ _ hlt2 ⟨by first | rfl | (simp only [upd_app, seval]; rfl), (by first | exact e2_b3 | (simp only [nb7_b3, nb3_b7, nb10_b3, nb3_b10, nb10_b7, nb7_b10, upd_app, seval]; first | done | exact e2_b3)), _, upd_same _ _ _, (by rw [htk, List.map_append, List.map_singleton, hqr]; exact hown'.off ho7' _), ho3', ho7'⟩ (by repeat (first | exact ag2 | refine agree.upd rfl ?_))
      · have hkn2 : j = p.funs.length := by have := of_decide_eq_false hc; omega
        clear hc
        rw [hkn2, List.take_length] at hown
        refine awp_exit ?_; simp only [RR, seval]
        refine awp_seq ?_
        refine awp_name fun F11 M11 hfr hH => ?_
        have g1 := hfr 1
        have g2 := hfr 2
        have g3 := hfr 3
        have g6 := hfr 6
        have g7 := hfr 7
        have gb3 := hH b3
        have gb7 := hH b7
        try simp only [f1, f2, f3, f6, f7, f9, hb3, hb7, nb7_b3, nb3_b7, List.length_map, e1, e2, RR, seval] at g1 g2 g3 g6 g7 gb3 gb7
        have hown := hown.same hH
        have f1 := g1; clear g1
        have f2 := g2; clear g2
        have f3 := g3; clear g3
        have f6 := g6; clear g6
        have f7 := g7; clear g7
        have hb3 := gb3; clear gb3
        have hb7 := gb7; clear gb7
        clear hfr hH
        have h0 : M11 b7 = some (.rows 3 [[AV.isl 1 ((p.vars.map qN).map strRow), .isl 2 ((p.arrs.map qA).map Ar.row)] ++ v2 :: []]) := hb7
        refine awp_sealP hown h0 (fun x hx => by simp only [List.mem_cons, List.not_mem_nil, or_false] at hx; rcases hx with rfl | rfl <;> exact noO_flat rfl) (fun x hx => by cases hx) ho7 fun F9 M9 hfF hb7' hbF => ?_
        have f1 := (hfF 1 (by rw [f1]; exact noO_flat rfl)).trans f1
        have f2 := (hfF 2 (by rw [f2]; exact noO_flat rfl)).trans f2
        have f3 := (hfF 3 (by rw [f3]; exact noO_flat rfl)).trans f3
        have f6 := (hfF 6 (by rw [f6]; exact noO_flat rfl)).trans f6
        have f7 := (hfF 7 (by rw [f7]; exact noO_flat rfl)).trans f7
        have hb3 := hbF b3 _ _ nb3_b7 ho3 (fun r hr x hx => by simp only [List.mem_singleton] at hr; subst hr; simp only [List.mem_cons, List.not_mem_nil, or_false] at hx; rcases hx with rfl | rfl | rfl <;> exact noO_flat rfl) hb3
        have hb7 : M9 b7 = some (.rows 3 [[.isl 1 ((p.vars.map qN).map strRow), .isl 2 ((p.arrs.map qA).map Ar.row), .isl 5 ((qFi m1 0 p.funs).map Fu.row)]]) := hb7'
        refine awp_seq_k fun K hK => ?_
        refine awp_region rfl ?_
        simp only [f1, f2, f3, f6, f7, hb3, hb7, nb7_b3, nb3_b7, List.length_map, e1, e2, RR, seval]
        refine awpC_pure' (hq) ?_
        simp only [f1, f2, f3, f6, f7, hb3, hb7, nb7_b3, nb3_b7, List.length_map, e1, e2, RR, seval]
        refine hK _ _ ?_; clear hK K
        refine awp_if _ rfl (fun hc16 => ?_) (fun hc16 => ?_)
        · refine awp_seq_k fun K hK => ?_
          refine awp_region rfl ?_
          simp only [f1, f2, f3, f6, f7, hb3, hb7, nb7_b3, nb3_b7, List.length_map, e1, e2, RR, seval]
          refine awpC_pure' (awake_con) ?_
          simp only [f1, f2, f3, f6, f7, hb3, hb7, nb7_b3, nb3_b7, List.length_map, e1, e2, RR, seval]
          refine hK _ _ ?_; clear hK K
          refine awp_ret ?_; simp only [bodyQ, aresult, ares, f1, f2, f3, f6, f7, hb3, hb7, nb7_b3, nb3_b7, List.length_map, e1, e2, RR, seval]
          refine Gives.pure ?_
          rfl
        · have c2 := c2 (by simpa using hc16)
          refine awp_skip ?_; try simp only [RR]
          refine awp_seq_k fun K hK => ?_
          refine awp_region_draw2 (fun x => x ≠ b3 ∧ x ≠ b7) [(0, 1), (1, 3), (2, 1), (3, 3), (4, 3), (5, 3), (7, 0), (8, 3), (9, 3), (10, 3), (6, 1), (11, 1), (12, 3), (13, 3), (14, 3)] [] draws (by kernel_rfl) rfl rfl ?_
          simp only [emitF, markOf, touch_mp, touch_imp, touch_nmp, ne_eq, not_true_eq_false, and_false, false_and, not_false_eq_true, f1, f2, f3, f6, f7, hb3, hb7, nb7_b3, nb3_b7, List.length_map, e1, e2, acells, Option.map_some, decide_true, Bool.and_self, Bool.and_true, RR, seval]
          all_goals try (refine awpC_pure' (awake_con) ?_; simp only [emitF, markOf, touch_mp, touch_imp, touch_nmp, ne_eq, not_true_eq_false, and_false, false_and, not_false_eq_true, f1, f2, f3, f6, f7, hb3, hb7, nb7_b3, nb3_b7, List.length_map, e1, e2, acells, Option.map_some, decide_true, Bool.and_self, Bool.and_true, RR, seval])
          all_goals try ((first | refine awpG_splitN (fun h => ?_) (fun h => ?_) | refine awpG_split (fun h => ?_) (fun h => ?_)) <;> simp only [h, emitF, markOf, touch_mp, touch_imp, touch_nmp, ne_eq, not_true_eq_false, and_false, false_and, not_false_eq_true, f1, f2, f3, f6, f7, hb3, hb7, nb7_b3, nb3_b7, List.length_map, e1, e2, acells, Option.map_some, decide_true, Bool.and_self, Bool.and_true, RR, seval])
          all_goals try (refine awpC_pure' (c1) ?_; simp only [emitF, markOf, touch_mp, touch_imp, touch_nmp, ne_eq, not_true_eq_false, and_false, false_and, not_false_eq_true, f1, f2, f3, f6, f7, hb3, hb7, nb7_b3, nb3_b7, List.length_map, e1, e2, acells, Option.map_some, decide_true, Bool.and_self, Bool.and_true, RR, seval])
          all_goals try (refine awpC_pure' (c2) ?_; simp only [emitF, markOf, touch_mp, touch_imp, touch_nmp, ne_eq, not_true_eq_false, and_false, false_and, not_false_eq_true, f1, f2, f3, f6, f7, hb3, hb7, nb7_b3, nb3_b7, List.length_map, e1, e2, acells, Option.map_some, decide_true, Bool.and_self, Bool.and_true, RR, seval])
          all_goals
            refine hK _ _ ?_; clear hK K
            refine awp_ret ?_; simp only [bodyQ, aresult, ares, f1, f2, f3, f6, f7, hb3, hb7, nb7_b3, nb3_b7, List.length_map, e1, e2, acells, Option.map_some, decide_true, Bool.and_self, Bool.and_true, RR, seval]
            refine Gives.pure ?_
            rfl
end Go.Proofs.Ytlokndnkpleegaa
