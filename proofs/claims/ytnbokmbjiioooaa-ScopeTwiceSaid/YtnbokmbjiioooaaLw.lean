/- Chapter 16: ScopeTwice's contract. -/
import Derived.Test.YtnbokmbjiioooaaSc4
set_option linter.unusedSimpArgs false
set_option linter.unusedVariables false
namespace Go.Proofs.Ytnbokmbjiioooaa
open Go.Al
theorem moreV_av (p : Pg) (s : Str) : (moreV p s).av = .agg [.isl 1 (p.vars.map strRow ++ [[.str s]]), .isl 2 (p.arrs.map Ar.row), .isl 5 (p.funs.map Fu.row)] := by
  simp only [Pg.av, Pg.row, moreV, List.map_append]
  rfl
theorem ScopeTwice_con (p : Pg) (hp : p.ok) (w : Int) (hw : 0 ≤ w ∧ w ≤ 255) : PCon env 5 [p.av, .int .u8 w] (.bool true) := by
  have hfew := few_con p hp
  have hall := few16_small p hp
  have hav : p.av = .agg p.row := rfl
  have hrow : p.row = [.isl 1 (p.vars.map strRow), .isl 2 (p.arrs.map Ar.row), .isl 5 (p.funs.map Fu.row)] := rfl
  rw [hav, hrow] at hfew ⊢
  cases hc : few16 p with
  | false =>
    rw [hc] at hfew
    refine con_of 47 [.tmp 4] Try.func5 rfl rfl rfl rfl ?_
    refine awp_seq_k fun K hK => ?_
    refine awp_region rfl ?_
    simp only [RR, seval]
    refine awpN_intro fun b2 hn2 => ?_
    simp only [RR, seval]
    refine hK _ _ ?_; clear hK K
    refine awp_seq ?_
    refine awp_seq_k fun K hK => ?_
    refine awp_region rfl ?_
    simp only [RR, seval]
    refine awpC_pure' (alive_con) ?_
    simp only [RR, seval]
    refine hK _ _ ?_; clear hK K
    refine awp_if false rfl (fun hc => by cases hc) (fun _ => ?_)
    refine awp_skip ?_; try simp only [RR]
    refine awp_seq ?_
    refine awp_seq_k fun K hK => ?_
    refine awp_region rfl ?_
    simp only [RR, seval]
    refine awpC_pure' (hfew) ?_
    simp only [RR, seval]
    refine hK _ _ ?_; clear hK K
    refine awp_if true rfl (fun _ => ?_) (fun hc => by cases hc)
    refine awp_seq_k fun K hK => ?_
    refine awp_region rfl ?_
    simp only [RR, seval]
    refine hK _ _ ?_; clear hK K
    refine awp_ret ?_; simp only [bodyQ, aresult, ares, RR, seval]
    refine Gives.pure ?_
    rfl
  | true =>
    rw [hc] at hfew
    obtain ⟨hs, h1, hlen⟩ := hall hc
    have hf := hs.few
    have hv := hs.v
    have hpv := hf.gl
    have c1 := Check_con p hf h1
    have hG := Globals_con p hf
    obtain ⟨n, hn1, hn2, hF⟩ := Fresh_con p hf
    have hql : fitL (qn n) := by
      have := digs_len n
      simp only [fitL, qn, List.length_cons]; omega
    have c3 := Check_con (moreV p (qn n)) (moreV_few hs hql) h1
    rw [moreV_fresh p _ hn1, moreV_av] at c3
    have hgl : 1 ≤ (globL p).length := by rw [globL_len]; omega
    obtain ⟨m, hm⟩ := Int.eq_ofNat_of_zero_le hw.1
    subst hm
    have hml : m % (globL p).length < (globL p).length := Nat.mod_lt _ (by omega)
    have hx := List.getElem?_eq_getElem hml
    have hxm := List.getElem_mem hml
    have hxl := hlen _ hxm
    have hg := getN hx
    generalize (globL p)[m % (globL p).length] = x at hx hxm hxl hg
    have c2 := Check_con (moreV p x) (moreV_few hs (by simp only [fitL]; omega)) h1
    rw [moreV_twice p _ hxm, moreV_av] at c2
    have e1 : IntKind.wrap .i64 (m : Int) = (m : Int) := by rw [IntWalk.i64_in _ (by omega)]
    have e2 : (m : Int).tmod ((globL p).length : Int) = ((m % (globL p).length : Nat) : Int) := IntWalk.up_tmod rfl rfl
    have e3 : ¬ (((globL p).length : Int) = 0) := by omega
    have o1 := oneN p.vars
    rw [hav, hrow] at c1 hG hF
    refine con_of 47 [.tmp 4] Try.func5 rfl rfl rfl rfl ?_
    refine awp_seq_k fun K hK => ?_
    refine awp_region rfl ?_
    simp only [List.length_map, e1, e2, e3, hg, o1, RR, seval]
    refine awpN_intro fun b2 hn2 => ?_
    simp only [List.length_map, e1, e2, e3, hg, o1, RR, seval]
    refine hK _ _ ?_; clear hK K
    refine awp_seq ?_
    refine awp_seq_k fun K hK => ?_
    refine awp_region rfl ?_
    simp only [List.length_map, e1, e2, e3, hg, o1, RR, seval]
    refine awpC_pure' (alive_con) ?_
    simp only [List.length_map, e1, e2, e3, hg, o1, RR, seval]
    refine hK _ _ ?_; clear hK K
    refine awp_if false rfl (fun hc => by cases hc) (fun _ => ?_)
    refine awp_skip ?_; try simp only [RR]
    refine awp_seq ?_
    refine awp_seq_k fun K hK => ?_
    refine awp_region rfl ?_
    simp only [List.length_map, e1, e2, e3, hg, o1, RR, seval]
    refine awpC_pure' (hfew) ?_
    simp only [List.length_map, e1, e2, e3, hg, o1, RR, seval]
    refine hK _ _ ?_; clear hK K
    refine awp_if false rfl (fun hc => by cases hc) (fun _ => ?_)
    refine awp_skip ?_; try simp only [RR]
    refine awp_seq_k fun K hK => ?_
    refine awp_region rfl ?_
    simp only [List.length_map, e1, e2, e3, hg, o1, RR, seval]
    refine awpC_pure' (hG) ?_
    simp only [List.length_map, e1, e2, e3, hg, o1, RR, seval]
    refine hK _ _ ?_; clear hK K
    refine awp_seq_k fun K hK => ?_
    refine awp_region rfl ?_
    simp only [List.length_map, e1, e2, e3, hg, o1, RR, seval]
    refine awpN_intro fun b6 hn6 => ?_
    have nb6_b2 : b6 ≠ b2 := fun e => by rw [e] at hn6; simp only [List.length_map, e1, e2, e3, hg, o1, RR, seval, reduceCtorEq] at hn6
    have nb2_b6 : b2 ≠ b6 := fun e => nb6_b2 e.symm
    simp only [nb6_b2, nb2_b6, List.length_map, e1, e2, e3, hg, o1, RR, seval]
    refine hK _ _ ?_; clear hK K
    refine awp_seq_k fun K hK => ?_
    refine awp_region_draw2 (fun x => x ≠ b2 ∧ x ≠ b6) [(1, 0), (2, 0), (4, 0), (5, 0), (6, 0), (7, 0), (8, 0), (9, 0), (10, 0), (11, 0), (12, 2), (0, 1), (3, 1), (13, 1), (14, 1)] [(15, 1)] draws (by kernel_rfl) rfl rfl ?_
    simp only [emitF, markOf, ne_eq, not_true_eq_false, and_false, false_and, not_false_eq_true, nb6_b2, nb2_b6, List.length_map, e1, e2, e3, hg, o1, RR, seval]
    refine awpB_own fun b15 hn15 => ?_
    have nb15_b2 : b15 ≠ b2 := fun e => by rw [e] at hn15; simp only [nb6_b2, nb2_b6, List.length_map, e1, e2, e3, hg, o1, RR, seval, reduceCtorEq] at hn15
    have nb2_b15 : b2 ≠ b15 := fun e => nb15_b2 e.symm
    have nb15_b6 : b15 ≠ b6 := fun e => by rw [e] at hn15; simp only [nb6_b2, nb2_b6, List.length_map, e1, e2, e3, hg, o1, RR, seval, reduceCtorEq] at hn15
    have nb6_b15 : b6 ≠ b15 := fun e => nb15_b6 e.symm
    simp only [emitF, markOf, ne_eq, not_true_eq_false, and_false, false_and, not_false_eq_true, nb6_b2, nb2_b6, nb15_b2, nb2_b15, nb15_b6, nb6_b15, List.length_map, e1, e2, e3, hg, o1, RR, seval]
    refine awpA_osl (b := b15) (upd_same _ _ _) (by simp only [List.length_map, List.length_append, List.length_cons, List.length_nil, Nat.zero_add]) (by simp only [List.length_map, List.length_append, List.length_cons, List.length_nil]; omega) (by repeat (first | trivial | assumption | refine ⟨?_, ?_⟩)) fun b18 hn18 => ?_
    have nb18_b2 : b18 ≠ b2 := by rcases hn18 with e | e; rw [e]; exact nb15_b2; intro e2; rw [e2] at e; simp only [nb6_b2, nb2_b6, nb15_b2, nb2_b15, nb15_b6, nb6_b15, List.length_map, e1, e2, e3, hg, o1, RR, seval, reduceCtorEq] at e
    have nb2_b18 : b2 ≠ b18 := fun e => nb18_b2 e.symm
    have nb18_b6 : b18 ≠ b6 := by rcases hn18 with e | e; rw [e]; exact nb15_b6; intro e2; rw [e2] at e; simp only [nb6_b2, nb2_b6, nb15_b2, nb2_b15, nb15_b6, nb6_b15, List.length_map, e1, e2, e3, hg, o1, RR, seval, reduceCtorEq] at e
    have nb6_b18 : b6 ≠ b18 := fun e => nb18_b6 e.symm
    simp only [emitF, markOf, ne_eq, not_true_eq_false, and_false, false_and, not_false_eq_true, List.length_append, nb6_b2, nb2_b6, nb15_b2, nb2_b15, nb15_b6, nb6_b15, nb18_b2, nb2_b18, nb18_b6, nb6_b18, List.length_map, e1, e2, e3, hg, o1, RR, seval]
    refine awpA_osl (b := b18) (upd_same _ _ _) (by simp only [List.length_map, List.length_append, List.length_cons, List.length_nil, Nat.zero_add]) (by simp only [List.length_map, List.length_append, List.length_cons, List.length_nil]; omega) (by repeat (first | trivial | assumption | refine ⟨?_, ?_⟩)) fun b28 hn28 => ?_
    have nb28_b2 : b28 ≠ b2 := by rcases hn28 with e | e; rw [e]; exact nb18_b2; intro e2; rw [e2] at e; simp only [nb6_b2, nb2_b6, nb15_b2, nb2_b15, nb15_b6, nb6_b15, nb18_b2, nb2_b18, nb18_b6, nb6_b18, List.length_map, e1, e2, e3, hg, o1, RR, seval, reduceCtorEq] at e
    have nb2_b28 : b2 ≠ b28 := fun e => nb28_b2 e.symm
    have nb28_b6 : b28 ≠ b6 := by rcases hn28 with e | e; rw [e]; exact nb18_b6; intro e2; rw [e2] at e; simp only [nb6_b2, nb2_b6, nb15_b2, nb2_b15, nb15_b6, nb6_b15, nb18_b2, nb2_b18, nb18_b6, nb6_b18, List.length_map, e1, e2, e3, hg, o1, RR, seval, reduceCtorEq] at e
    have nb6_b28 : b6 ≠ b28 := fun e => nb28_b6 e.symm
    simp only [emitF, markOf, ne_eq, not_true_eq_false, and_false, false_and, not_false_eq_true, List.length_append, nb6_b2, nb2_b6, nb15_b2, nb2_b15, nb15_b6, nb6_b15, nb18_b2, nb2_b18, nb18_b6, nb6_b18, nb28_b2, nb2_b28, nb28_b6, nb6_b28, List.length_map, e1, e2, e3, hg, o1, RR, seval]
    refine hK _ _ ?_; clear hK K
    refine awp_seq ?_
    refine awp_name fun F1 M1 hfr hH => ?_
    have g2 := hfr 2
    have g4 := hfr 4
    have g6 := hfr 6
    have gb2 := hH b2
    have gb6 := hH b6
    have gb28 := hH b28
    try simp only [nb6_b2, nb2_b6, nb15_b2, nb2_b15, nb15_b6, nb6_b15, nb18_b2, nb2_b18, nb18_b6, nb6_b18, nb28_b2, nb2_b28, nb28_b6, nb6_b28, List.length_map, e1, e2, e3, hg, o1, RR, seval] at g2 g4 g6 gb2 gb6 gb28
    have f2 := g2; clear g2
    have f4 := g4; clear g4
    have f6 := g6; clear g6
    have hb2 := gb2; clear gb2
    have hb6 := gb6; clear gb6
    have hb28 := gb28; clear gb28
    clear hfr hH
    refine awp_freezeAll hb28 ?_
    refine awp_name fun F2 M2 hfr hH => ?_
    have g2 := hfr 2
    have g4 := hfr 4
    have g6 := hfr 6
    have gb2 := hH b2
    have gb6 := hH b6
    try simp only [frzO_rows, List.map_cons, List.map_nil, Option.map_some, frz_osl, frz_isl, frz_int, frz_str, frz_bool, frz_ptr, frz_nsl, frz_self, and_self, List.length_map, List.length_set, List.length_append, List.length_cons, List.length_nil, f2, f4, f6, hb2, hb6, nb6_b2, nb2_b6, nb15_b2, nb2_b15, nb15_b6, nb6_b15, nb18_b2, nb2_b18, nb18_b6, nb6_b18, nb28_b2, nb2_b28, nb28_b6, nb6_b28, List.length_map, e1, e2, e3, hg, o1, RR, seval] at g2 g4 g6 gb2 gb6
    have f2 := g2; clear g2
    have f4 := g4; clear g4
    have f6 := g6; clear g6
    have hb2 := gb2; clear gb2
    have hb6 := gb6; clear gb6
    clear hfr hH
    refine awp_seq_k fun K hK => ?_
    refine awp_region rfl ?_
    simp only [f2, f4, f6, hb2, hb6, nb6_b2, nb2_b6, nb15_b2, nb2_b15, nb15_b6, nb6_b15, nb18_b2, nb2_b18, nb18_b6, nb6_b18, nb28_b2, nb2_b28, nb28_b6, nb6_b28, List.length_map, e1, e2, e3, hg, o1, RR, seval]
    refine awpC_pure' (c2) ?_
    simp only [f2, f4, f6, hb2, hb6, nb6_b2, nb2_b6, nb15_b2, nb2_b15, nb15_b6, nb6_b15, nb18_b2, nb2_b18, nb18_b6, nb6_b18, nb28_b2, nb2_b28, nb28_b6, nb6_b28, List.length_map, e1, e2, e3, hg, o1, RR, seval]
    refine hK _ _ ?_; clear hK K
    refine awp_if false rfl (fun hc => by cases hc) (fun _ => ?_)
    refine awp_skip ?_; try simp only [RR]
    refine awp_seq_k fun K hK => ?_
    refine awp_region_draw2 (fun x => x ≠ b2 ∧ x ≠ b6) [(1, 0), (2, 0), (4, 0), (0, 1), (3, 1), (5, 1), (6, 2), (7, 1), (8, 1)] [(9, 1)] draws (by kernel_rfl) rfl rfl ?_
    simp only [emitF, markOf, ne_eq, not_true_eq_false, and_false, false_and, not_false_eq_true, f2, f4, f6, hb2, hb6, nb6_b2, nb2_b6, nb15_b2, nb2_b15, nb15_b6, nb6_b15, nb18_b2, nb2_b18, nb18_b6, nb6_b18, nb28_b2, nb2_b28, nb28_b6, nb6_b28, List.length_map, e1, e2, e3, hg, o1, RR, seval]
    refine awpB_own fun b33 hn33 => ?_
    have nb33_b2 : b33 ≠ b2 := fun e => by rw [e] at hn33; simp only [f2, f4, f6, hb2, hb6, nb6_b2, nb2_b6, nb15_b2, nb2_b15, nb15_b6, nb6_b15, nb18_b2, nb2_b18, nb18_b6, nb6_b18, nb28_b2, nb2_b28, nb28_b6, nb6_b28, List.length_map, e1, e2, e3, hg, o1, RR, seval, reduceCtorEq] at hn33
    have nb2_b33 : b2 ≠ b33 := fun e => nb33_b2 e.symm
    have nb33_b6 : b33 ≠ b6 := fun e => by rw [e] at hn33; simp only [f2, f4, f6, hb2, hb6, nb6_b2, nb2_b6, nb15_b2, nb2_b15, nb15_b6, nb6_b15, nb18_b2, nb2_b18, nb18_b6, nb6_b18, nb28_b2, nb2_b28, nb28_b6, nb6_b28, List.length_map, e1, e2, e3, hg, o1, RR, seval, reduceCtorEq] at hn33
    have nb6_b33 : b6 ≠ b33 := fun e => nb33_b6 e.symm
    simp only [emitF, markOf, ne_eq, not_true_eq_false, and_false, false_and, not_false_eq_true, f2, f4, f6, hb2, hb6, nb6_b2, nb2_b6, nb15_b2, nb2_b15, nb15_b6, nb6_b15, nb18_b2, nb2_b18, nb18_b6, nb6_b18, nb28_b2, nb2_b28, nb28_b6, nb6_b28, nb33_b2, nb2_b33, nb33_b6, nb6_b33, List.length_map, e1, e2, e3, hg, o1, RR, seval]
    refine awpA_osl (b := b33) (upd_same _ _ _) (by simp only [List.length_map, List.length_append, List.length_cons, List.length_nil, Nat.zero_add]) (by simp only [List.length_map, List.length_append, List.length_cons, List.length_nil]; omega) (by repeat (first | trivial | assumption | refine ⟨?_, ?_⟩)) fun b36 hn36 => ?_
    have nb36_b2 : b36 ≠ b2 := by rcases hn36 with e | e; rw [e]; exact nb33_b2; intro e2; rw [e2] at e; simp only [f2, f4, f6, hb2, hb6, nb6_b2, nb2_b6, nb15_b2, nb2_b15, nb15_b6, nb6_b15, nb18_b2, nb2_b18, nb18_b6, nb6_b18, nb28_b2, nb2_b28, nb28_b6, nb6_b28, nb33_b2, nb2_b33, nb33_b6, nb6_b33, List.length_map, e1, e2, e3, hg, o1, RR, seval, reduceCtorEq] at e
    have nb2_b36 : b2 ≠ b36 := fun e => nb36_b2 e.symm
    have nb36_b6 : b36 ≠ b6 := by rcases hn36 with e | e; rw [e]; exact nb33_b6; intro e2; rw [e2] at e; simp only [f2, f4, f6, hb2, hb6, nb6_b2, nb2_b6, nb15_b2, nb2_b15, nb15_b6, nb6_b15, nb18_b2, nb2_b18, nb18_b6, nb6_b18, nb28_b2, nb2_b28, nb28_b6, nb6_b28, nb33_b2, nb2_b33, nb33_b6, nb6_b33, List.length_map, e1, e2, e3, hg, o1, RR, seval, reduceCtorEq] at e
    have nb6_b36 : b6 ≠ b36 := fun e => nb36_b6 e.symm
    simp only [emitF, markOf, ne_eq, not_true_eq_false, and_false, false_and, not_false_eq_true, List.length_append, f2, f4, f6, hb2, hb6, nb6_b2, nb2_b6, nb15_b2, nb2_b15, nb15_b6, nb6_b15, nb18_b2, nb2_b18, nb18_b6, nb6_b18, nb28_b2, nb2_b28, nb28_b6, nb6_b28, nb33_b2, nb2_b33, nb33_b6, nb6_b33, nb36_b2, nb2_b36, nb36_b6, nb6_b36, List.length_map, e1, e2, e3, hg, o1, RR, seval]
    refine awpC_pure' (hF) ?_
    simp only [emitF, markOf, ne_eq, not_true_eq_false, and_false, false_and, not_false_eq_true, f2, f4, f6, hb2, hb6, nb6_b2, nb2_b6, nb15_b2, nb2_b15, nb15_b6, nb6_b15, nb18_b2, nb2_b18, nb18_b6, nb6_b18, nb28_b2, nb2_b28, nb28_b6, nb6_b28, nb33_b2, nb2_b33, nb33_b6, nb6_b33, nb36_b2, nb2_b36, nb36_b6, nb6_b36, List.length_map, e1, e2, e3, hg, o1, RR, seval]
    refine awpA_osl (b := b36) (upd_same _ _ _) (by simp only [List.length_map, List.length_append, List.length_cons, List.length_nil, Nat.zero_add]) (by simp only [List.length_map, List.length_append, List.length_cons, List.length_nil]; omega) (by repeat (first | trivial | assumption | refine ⟨?_, ?_⟩)) fun b40 hn40 => ?_
    have nb40_b2 : b40 ≠ b2 := by rcases hn40 with e | e; rw [e]; exact nb36_b2; intro e2; rw [e2] at e; simp only [f2, f4, f6, hb2, hb6, nb6_b2, nb2_b6, nb15_b2, nb2_b15, nb15_b6, nb6_b15, nb18_b2, nb2_b18, nb18_b6, nb6_b18, nb28_b2, nb2_b28, nb28_b6, nb6_b28, nb33_b2, nb2_b33, nb33_b6, nb6_b33, nb36_b2, nb2_b36, nb36_b6, nb6_b36, List.length_map, e1, e2, e3, hg, o1, RR, seval, reduceCtorEq] at e
    have nb2_b40 : b2 ≠ b40 := fun e => nb40_b2 e.symm
    have nb40_b6 : b40 ≠ b6 := by rcases hn40 with e | e; rw [e]; exact nb36_b6; intro e2; rw [e2] at e; simp only [f2, f4, f6, hb2, hb6, nb6_b2, nb2_b6, nb15_b2, nb2_b15, nb15_b6, nb6_b15, nb18_b2, nb2_b18, nb18_b6, nb6_b18, nb28_b2, nb2_b28, nb28_b6, nb6_b28, nb33_b2, nb2_b33, nb33_b6, nb6_b33, nb36_b2, nb2_b36, nb36_b6, nb6_b36, List.length_map, e1, e2, e3, hg, o1, RR, seval, reduceCtorEq] at e
    have nb6_b40 : b6 ≠ b40 := fun e => nb40_b6 e.symm
    simp only [emitF, markOf, ne_eq, not_true_eq_false, and_false, false_and, not_false_eq_true, List.length_append, f2, f4, f6, hb2, hb6, nb6_b2, nb2_b6, nb15_b2, nb2_b15, nb15_b6, nb6_b15, nb18_b2, nb2_b18, nb18_b6, nb6_b18, nb28_b2, nb2_b28, nb28_b6, nb6_b28, nb33_b2, nb2_b33, nb33_b6, nb6_b33, nb36_b2, nb2_b36, nb36_b6, nb6_b36, nb40_b2, nb2_b40, nb40_b6, nb6_b40, List.length_map, e1, e2, e3, hg, o1, RR, seval]
    refine hK _ _ ?_; clear hK K
    refine awp_name fun F3 M3 hfr hH => ?_
    have g2 := hfr 2
    have g4 := hfr 4
    have g6 := hfr 6
    have gb2 := hH b2
    have gb6 := hH b6
    have gb40 := hH b40
    try simp only [f2, f4, f6, hb2, hb6, nb6_b2, nb2_b6, nb15_b2, nb2_b15, nb15_b6, nb6_b15, nb18_b2, nb2_b18, nb18_b6, nb6_b18, nb28_b2, nb2_b28, nb28_b6, nb6_b28, nb33_b2, nb2_b33, nb33_b6, nb6_b33, nb36_b2, nb2_b36, nb36_b6, nb6_b36, nb40_b2, nb2_b40, nb40_b6, nb6_b40, List.length_map, e1, e2, e3, hg, o1, RR, seval] at g2 g4 g6 gb2 gb6 gb40
    have f2 := g2; clear g2
    have f4 := g4; clear g4
    have f6 := g6; clear g6
    have hb2 := gb2; clear gb2
    have hb6 := gb6; clear gb6
    have hb40 := gb40; clear gb40
    clear hfr hH
    refine awp_freezeAll hb40 ?_
    refine awp_name fun F4 M4 hfr hH => ?_
    have g2 := hfr 2
    have g4 := hfr 4
    have g6 := hfr 6
    have gb2 := hH b2
    have gb6 := hH b6
    try simp only [frzO_rows, List.map_cons, List.map_nil, Option.map_some, frz_osl, frz_isl, frz_int, frz_str, frz_bool, frz_ptr, frz_nsl, frz_self, and_self, List.length_map, List.length_set, List.length_append, List.length_cons, List.length_nil, f2, f4, f6, hb2, hb6, nb6_b2, nb2_b6, nb15_b2, nb2_b15, nb15_b6, nb6_b15, nb18_b2, nb2_b18, nb18_b6, nb6_b18, nb28_b2, nb2_b28, nb28_b6, nb6_b28, nb33_b2, nb2_b33, nb33_b6, nb6_b33, nb36_b2, nb2_b36, nb36_b6, nb6_b36, nb40_b2, nb2_b40, nb40_b6, nb6_b40, List.length_map, e1, e2, e3, hg, o1, RR, seval] at g2 g4 g6 gb2 gb6
    have f2 := g2; clear g2
    have f4 := g4; clear g4
    have f6 := g6; clear g6
    have hb2 := gb2; clear gb2
    have hb6 := gb6; clear gb6
    clear hfr hH
    refine awp_seq_k fun K hK => ?_
    refine awp_region_draw2 (fun x => x ≠ b2 ∧ x ≠ b6) [(0, 1), (2, 0), (1, 1), (3, 1), (4, 1), (5, 1)] [] draws (by kernel_rfl) rfl rfl ?_
    simp only [emitF, markOf, ne_eq, not_true_eq_false, and_false, false_and, not_false_eq_true, f2, f4, f6, hb2, hb6, nb6_b2, nb2_b6, nb15_b2, nb2_b15, nb15_b6, nb6_b15, nb18_b2, nb2_b18, nb18_b6, nb6_b18, nb28_b2, nb2_b28, nb28_b6, nb6_b28, nb33_b2, nb2_b33, nb33_b6, nb6_b33, nb36_b2, nb2_b36, nb36_b6, nb6_b36, nb40_b2, nb2_b40, nb40_b6, nb6_b40, List.length_map, e1, e2, e3, hg, o1, RR, seval]
    refine awpC_pure' (c3) ?_
    simp only [emitF, markOf, ne_eq, not_true_eq_false, and_false, false_and, not_false_eq_true, f2, f4, f6, hb2, hb6, nb6_b2, nb2_b6, nb15_b2, nb2_b15, nb15_b6, nb6_b15, nb18_b2, nb2_b18, nb18_b6, nb6_b18, nb28_b2, nb2_b28, nb28_b6, nb6_b28, nb33_b2, nb2_b33, nb33_b6, nb6_b33, nb36_b2, nb2_b36, nb36_b6, nb6_b36, nb40_b2, nb2_b40, nb40_b6, nb6_b40, List.length_map, e1, e2, e3, hg, o1, RR, seval]
    refine awpC_pure' (c1) ?_
    simp only [emitF, markOf, ne_eq, not_true_eq_false, and_false, false_and, not_false_eq_true, f2, f4, f6, hb2, hb6, nb6_b2, nb2_b6, nb15_b2, nb2_b15, nb15_b6, nb6_b15, nb18_b2, nb2_b18, nb18_b6, nb6_b18, nb28_b2, nb2_b28, nb28_b6, nb6_b28, nb33_b2, nb2_b33, nb33_b6, nb6_b33, nb36_b2, nb2_b36, nb36_b6, nb6_b36, nb40_b2, nb2_b40, nb40_b6, nb6_b40, List.length_map, e1, e2, e3, hg, o1, RR, seval]
    refine hK _ _ ?_; clear hK K
    refine awp_ret ?_; simp only [bodyQ, aresult, ares, f2, f4, f6, hb2, hb6, nb6_b2, nb2_b6, nb15_b2, nb2_b15, nb15_b6, nb6_b15, nb18_b2, nb2_b18, nb18_b6, nb6_b18, nb28_b2, nb2_b28, nb28_b6, nb6_b28, nb33_b2, nb2_b33, nb33_b6, nb6_b33, nb36_b2, nb2_b36, nb36_b6, nb6_b36, nb40_b2, nb2_b40, nb40_b6, nb6_b40, List.length_map, e1, e2, e3, hg, o1, RR, seval]
    refine Gives.pure ?_
    rfl
end Go.Proofs.Ytnbokmbjiioooaa
