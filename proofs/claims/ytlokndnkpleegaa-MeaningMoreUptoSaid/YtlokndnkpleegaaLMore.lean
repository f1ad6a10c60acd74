/- Chapter 18: MeaningMore. -/
import Derived.Test.YtlokndnkpleegaaMz
import Derived.Test.YtlokndnkpleegaaMst
import Derived.Test.YtlokndnkpleegaaMma
import Derived.Test.YtlokndnkpleegaaAlSf
set_option linter.unusedSimpArgs false
set_option linter.unusedVariables false
set_option maxRecDepth 10000
namespace Go.Al
theorem SubR_self : ∀ l : List AV, SubR l l
  | [] => .nil
  | x :: l => .cons (Sub.refl x) (SubR_self l)
theorem SubRs_self : ∀ l : List (List AV), SubRs l l
  | [] => .nil
  | x :: l => .cons (SubR_self x) (SubRs_self l)
theorem okN_cons {s : Str} {l : List Str} (hs : fitL s) (h : okN l) (hl : l.length ≤ 10000) : okN (s :: l) := ⟨by simp only [fitL, List.length_cons]; omega, fun x hx => by
  rcases List.mem_cons.1 hx with rfl | hx
  · exact hs
  · exact h.all x hx⟩
theorem putD_ok : putD.ok := by
  have h (n : Int) (hn : u32R n) : (Ex.mk 1 0 n [] []).ok := .mk _ _ _ _ _ (by simp [i64R]) (by simp [i64R]) hn (by simp [fitL]) (by simp [fitL]) (fun e h => by cases h)
  refine .mk _ _ _ _ _ (by simp [i64R]) (by simp [fitL]) ⟨by simp [fitL], fun x hx => ?_⟩ (by simp [fitL]) (fun e h => by cases h) (by simp [fitL]) (fun e h => by cases h)
  simp only [List.mem_singleton] at hx
  subst hx
  refine .mk _ _ _ _ _ (by simp [i64R]) (by simp [i64R]) (by simp [u32R]) (by simp [fitL]) (by simp [fitL]) (fun e he => ?_)
  simp only [List.mem_cons, List.not_mem_nil, or_false] at he
  rcases he with rfl | rfl
  · exact h 1 (by simp [u32R])
  · exact h 0 (by simp [u32R])
theorem more_few {p : Pg} (h : p.few) (hv : p.vars.length ≤ 20) (hf : p.funs.length ≤ 64) : (moreP p).few := by
  refine ⟨⟨okN_cons (by simp [unN, fitL]) h.ok.vars (by omega), h.ok.afit, h.ok.arrs, by simp only [moreP, fitL, List.length_cons]; omega, fun f hf' => ?_⟩, by simp only [moreP, List.length_cons]; omega, h.a, by simp only [moreP, List.length_cons]; omega, fun f hf' => ?_⟩
  · rcases List.mem_cons.1 hf' with rfl | hf'
    · exact ⟨by simp [idleF, idN, fitL], ⟨by simp [idleF, fitL], (fun s h => by cases h)⟩, ⟨by simp [idleF, fitL], fun s h => by cases h⟩, ⟨by simp [idleF, fitL], fun s h => by simp only [idleF, List.mem_singleton] at h; subst h; exact putD_ok⟩⟩
    · exact h.ok.funs f hf'
  · rcases List.mem_cons.1 hf' with rfl | hf'
    · exact ⟨by simp [idleF], by simp [idleF], by simp [idleF, putD, szS, Sm.sz, szE, Ex.sz]⟩
    · exact h.fs f hf'
end Go.Al
namespace Go.Proofs.Ytlokndnkpleegaa
open Go.Al
theorem small_len {p : Pg} {inp : Str} (h : smallB p inp = true) : p.vars.length ≤ 20 ∧ p.arrs.length ≤ 10 ∧ p.funs.length ≤ 64 := by
  simp only [smallB, Bool.and_eq_true, decide_eq_true_eq] at h
  have hr := (sound_all h.1.2).1
  simp only [rightP, Bool.and_eq_true, decide_eq_true_eq, List.all_eq_true] at hr
  exact ⟨h.1.1.1.2, h.1.1.2, hr.1.1.2⟩
set_option maxHeartbeats 4000000 in
theorem MeaningMore_con (p : Pg) (hp : Bulk p) (inp : Str) (a : Int) (ha : 0 ≤ a ∧ a ≤ 255) : PCon env 11 [p.av, .str inp, .int .u8 a] (.bool true) := by
  have hsm := small_con p hp inp
  have hsf := fun h => small_few hp (inp := inp) h
  have hav : p.av = .agg p.row := rfl
  have hrow : p.row = [.isl 1 (p.vars.map strRow), .isl 2 (p.arrs.map Ar.row), .isl 5 (p.funs.map Fu.row)] := rfl
  cases hs : smallB p inp with
  | false =>
    rw [hs] at hsm
    rw [hav, hrow] at *
    refine con_of 50 [.tmp 6] Try.func11 rfl rfl rfl rfl ?_
    refine awp_seq_k fun K hK => ?_
    refine awp_region rfl ?_
    simp only [RR, seval]
    refine awpN_intro fun b3 hn3 => ?_
    simp only [RR, seval]
    refine hK _ _ ?_; clear hK K
    refine awp_seq ?_
    refine awp_seq_k fun K hK => ?_
    refine awp_region rfl ?_
    simp only [RR, seval]
    refine awpC_pure' (hsm) ?_
    simp only [RR, seval]
    refine hK _ _ ?_; clear hK K
    refine awp_if true rfl (fun _ => ?_) (fun hc => by cases hc)
    refine awp_seq_k fun K hK => ?_
    refine awp_region rfl ?_
    simp only [RR, seval]
    refine awpC_pure' (awake_con) ?_
    simp only [RR, seval]
    refine hK _ _ ?_; clear hK K
    refine awp_ret ?_; simp only [bodyQ, aresult, ares, RR, seval]
    refine Gives.pure ?_
    rfl
  | true =>
    rw [hs] at hsm
    obtain ⟨hf, h0, hin⟩ := hsf hs
    obtain ⟨hvl, hal, hfl⟩ := small_len hs
    have hok := sound_ok hf h0
    have hqf := more_few hf hvl hfl
    have hq := rSound_con (moreP p) hqf
    obtain ⟨n, hn⟩ := Int.eq_ofNat_of_zero_le ha.1
    subst hn
    have ha2 := ha.2
    obtain ⟨k1, ⟨x1, o1, t1⟩, r1⟩ := sound_run h0 inp (n : Int)
    have c1 := Run_con p hok inp (by omega) (n : Int) ⟨by omega, by omega⟩ r1
    have c2 := fun hz : soundT (moreP p) = 0 => Run_con (moreP p) (sound_ok hqf hz) inp (by omega) (n : Int) ⟨by omega, by omega⟩ (more_run h0 (sound_all hz).2.1 inp (n : Int) r1)
    have e1 : IntKind.wrap .i64 (n : Int) = (n : Int) := by rw [IntWalk.i64_in _ (by omega)]
    have n1 := lnum_con 1
    have n2 := lnum_con 0
    have n3 := lop_con 7 (numX 1) (numX 0)
    have n4 := lput_con (opX 7 (numX 1) (numX 0))
    have hqv : (moreP p).av = .agg [.isl 1 ([.str unN] :: p.vars.map strRow), .isl 2 (p.arrs.map Ar.row), .isl 5 ([.str idN, .isl 1 [], .isl 1 [], .bool true, .isl 5 [[.int .i64 3, .str [], .isl 5 [[.int .i64 6, .int .i64 7, .int .u32 0, .str [], .isl 5 [[.int .i64 1, .int .i64 0, .int .u32 1, .str [], .isl 5 []], [.int .i64 1, .int .i64 0, .int .u32 0, .str [], .isl 5 []]]]], .isl 5 [], .isl 5 []]]] :: p.funs.map Fu.row)] := by
      simp only [moreP, Pg.av, Pg.row, idleF, putD, Fu.row, Ex.row_eq, Sm.row_eq, List.map_cons, List.map_nil, strRow, Ex.kind, Ex.op, Ex.num, Ex.name, Ex.kids, Sm.kind, Sm.name, Sm.es, Sm.thn, Sm.els]
    simp only [putS, opX, numX, Ex.row_eq, Sm.row_eq, List.map_cons, List.map_nil, Ex.kind, Ex.op, Ex.num, Ex.name, Ex.kids, Sm.kind, Sm.name, Sm.es, Sm.thn, Sm.els] at n1 n2 n3 n4
    clear r1 hok hf h0 hsf
    rw [hav, hrow] at hsm c1
    rw [hqv] at hq c2
    simp only [resV] at c1 c2
    rw [hav, hrow]
    have w1 : 1 + p.vars.length = p.vars.length + 1 := Nat.add_comm _ _
    have w2 : 1 + p.funs.length = p.funs.length + 1 := Nat.add_comm _ _
    have q1 := one_fus p.funs
    have q2 := oneN p.vars
    clear hav hrow hqv hqf
    cases hz : decide (soundT (moreP p) = 0) with
    | false =>
      have hz' := of_decide_eq_false hz
      clear c2 c1
      generalize soundT (moreP p) = z at *
      have hz2 : (!decide (z = 0)) = true := by rw [hz]; rfl
      refine con_of 50 [.tmp 6] Try.func11 rfl rfl rfl rfl ?_
      refine awp_seq_k fun K hK => ?_
      refine awp_region rfl ?_
      simp only [List.length_map, e1, q1, q2, w1, w2, RR, seval]
      refine awpN_intro fun b3 hn3 => ?_
      simp only [List.length_map, e1, q1, q2, w1, w2, RR, seval]
      refine hK _ _ ?_; clear hK K
      refine awp_seq ?_
      refine awp_seq_k fun K hK => ?_
      refine awp_region rfl ?_
      simp only [List.length_map, e1, q1, q2, w1, w2, RR, seval]
      refine awpC_pure' (hsm) ?_
      simp only [List.length_map, e1, q1, q2, w1, w2, RR, seval]
      refine hK _ _ ?_; clear hK K
      refine awp_if false rfl (fun hc => by cases hc) (fun _ => ?_)
      refine awp_skip ?_; try simp only [RR]
      refine awp_seq_k fun K hK => ?_
      refine awp_region rfl ?_
      simp only [List.length_map, e1, q1, q2, w1, w2, RR, seval]
      refine awpN_intro fun b7 hn7 => ?_
      have nb7_b3 : b7 ≠ b3 := fun e => by rw [e] at hn7; simp only [List.length_map, e1, q1, q2, w1, w2, RR, seval, reduceCtorEq] at hn7
      have nb3_b7 : b3 ≠ b7 := fun e => nb7_b3 e.symm
      simp only [nb7_b3, nb3_b7, List.length_map, e1, q1, q2, w1, w2, RR, seval]
      refine hK _ _ ?_; clear hK K
      refine awp_seq_k fun K hK => ?_
      refine awp_region rfl ?_
      simp only [nb7_b3, nb3_b7, List.length_map, e1, q1, q2, w1, w2, RR, seval]
      refine awpB_own fun b15 hn15 => ?_
      have nb15_b3 : b15 ≠ b3 := fun e => by rw [e] at hn15; simp only [nb7_b3, nb3_b7, List.length_map, e1, q1, q2, w1, w2, RR, seval, reduceCtorEq] at hn15
      have nb3_b15 : b3 ≠ b15 := fun e => nb15_b3 e.symm
      have nb15_b7 : b15 ≠ b7 := fun e => by rw [e] at hn15; simp only [nb7_b3, nb3_b7, List.length_map, e1, q1, q2, w1, w2, RR, seval, reduceCtorEq] at hn15
      have nb7_b15 : b7 ≠ b15 := fun e => nb15_b7 e.symm
      simp only [nb7_b3, nb3_b7, nb15_b3, nb3_b15, nb15_b7, nb7_b15, List.length_map, e1, q1, q2, w1, w2, RR, seval]
      refine awpA_osl (b := b15) (upd_same _ _ _) (by simp only [List.length_map, List.length_append, List.length_cons, List.length_nil, Nat.zero_add]) (by simp only [List.length_map, List.length_append, List.length_cons, List.length_nil]; omega) (by repeat (first | trivial | assumption | refine ⟨?_, ?_⟩)) fun b18 hn18 => ?_
      have nb18_b3 : b18 ≠ b3 := by rcases hn18 with e | e; rw [e]; exact nb15_b3; intro e2; rw [e2] at e; simp only [nb7_b3, nb3_b7, nb15_b3, nb3_b15, nb15_b7, nb7_b15, List.length_map, e1, q1, q2, w1, w2, RR, seval, reduceCtorEq] at e
      have nb3_b18 : b3 ≠ b18 := fun e => nb18_b3 e.symm
      have nb18_b7 : b18 ≠ b7 := by rcases hn18 with e | e; rw [e]; exact nb15_b7; intro e2; rw [e2] at e; simp only [nb7_b3, nb3_b7, nb15_b3, nb3_b15, nb15_b7, nb7_b15, List.length_map, e1, q1, q2, w1, w2, RR, seval, reduceCtorEq] at e
      have nb7_b18 : b7 ≠ b18 := fun e => nb18_b7 e.symm
      simp only [List.length_append, nb7_b3, nb3_b7, nb15_b3, nb3_b15, nb15_b7, nb7_b15, nb18_b3, nb3_b18, nb18_b7, nb7_b18, List.length_map, e1, q1, q2, w1, w2, RR, seval]
      refine hK _ _ ?_; clear hK K
      refine awp_name fun F1 M1 hfr hH => ?_
      have g1 := hfr 1
      have g2 := hfr 2
      have g3 := hfr 3
      have g6 := hfr 6
      have g7 := hfr 7
      have gb3 := hH b3
      have gb7 := hH b7
      have gb18 := hH b18
      try simp only [nb7_b3, nb3_b7, nb15_b3, nb3_b15, nb15_b7, nb7_b15, nb18_b3, nb3_b18, nb18_b7, nb7_b18, List.length_map, e1, q1, q2, w1, w2, RR, seval] at g1 g2 g3 g6 g7 gb3 gb7 gb18
      have f1 := g1; clear g1
      have f2 := g2; clear g2
      have f3 := g3; clear g3
      have f6 := g6; clear g6
      have f7 := g7; clear g7
      have hb3 := gb3; clear gb3
      have hb7 := gb7; clear gb7
      have hb18 := gb18; clear gb18
      clear hfr hH
      refine awp_freezeAll hb18 ?_
      refine awp_name fun F2 M2 hfr hH => ?_
      have g1 := hfr 1
      have g2 := hfr 2
      have g3 := hfr 3
      have g6 := hfr 6
      have g7 := hfr 7
      have gb3 := hH b3
      have gb7 := hH b7
      try simp only [frzO_rows, List.map_cons, List.map_nil, Option.map_some, frz_osl, frz_isl, frz_int, frz_str, frz_bool, frz_ptr, frz_nsl, frz_self, and_self, List.length_map, List.length_set, List.length_append, List.length_cons, List.length_nil, w1, if_true, f1, f2, f3, f6, f7, hb3, hb7, nb7_b3, nb3_b7, nb15_b3, nb3_b15, nb15_b7, nb7_b15, nb18_b3, nb3_b18, nb18_b7, nb7_b18, List.length_map, e1, q1, q2, w1, w2, RR, seval] at g1 g2 g3 g6 g7 gb3 gb7
      have f1 := g1; clear g1
      have f2 := g2; clear g2
      have f3 := g3; clear g3
      have f6 := g6; clear g6
      have f7 := g7; clear g7
      have hb3 := gb3; clear gb3
      have hb7 := gb7; clear gb7
      clear hfr hH
      refine awp_seq_k fun K hK => ?_
      refine awp_region rfl ?_
      simp only [f1, f2, f3, f6, f7, hb3, hb7, nb7_b3, nb3_b7, nb15_b3, nb3_b15, nb15_b7, nb7_b15, nb18_b3, nb3_b18, nb18_b7, nb7_b18, List.length_map, e1, q1, q2, w1, w2, RR, seval]
      refine awpC_pure' (n1) ?_
      simp only [f1, f2, f3, f6, f7, hb3, hb7, nb7_b3, nb3_b7, nb15_b3, nb3_b15, nb15_b7, nb7_b15, nb18_b3, nb3_b18, nb18_b7, nb7_b18, List.length_map, e1, q1, q2, w1, w2, RR, seval]
      refine awpC_pure' (n2) ?_
      simp only [f1, f2, f3, f6, f7, hb3, hb7, nb7_b3, nb3_b7, nb15_b3, nb3_b15, nb15_b7, nb7_b15, nb18_b3, nb3_b18, nb18_b7, nb7_b18, List.length_map, e1, q1, q2, w1, w2, RR, seval]
      refine awpC_pure' (n3) ?_
      simp only [f1, f2, f3, f6, f7, hb3, hb7, nb7_b3, nb3_b7, nb15_b3, nb3_b15, nb15_b7, nb7_b15, nb18_b3, nb3_b18, nb18_b7, nb7_b18, List.length_map, e1, q1, q2, w1, w2, RR, seval]
      refine awpC_pure' (n4) ?_
      simp only [f1, f2, f3, f6, f7, hb3, hb7, nb7_b3, nb3_b7, nb15_b3, nb3_b15, nb15_b7, nb7_b15, nb18_b3, nb3_b18, nb18_b7, nb7_b18, List.length_map, e1, q1, q2, w1, w2, RR, seval]
      refine awpB_sealed ?_
      simp only [f1, f2, f3, f6, f7, hb3, hb7, nb7_b3, nb3_b7, nb15_b3, nb3_b15, nb15_b7, nb7_b15, nb18_b3, nb3_b18, nb18_b7, nb7_b18, List.length_map, e1, q1, q2, w1, w2, RR, seval]
      refine awpN_intro fun b8 hn8 => ?_
      have nb8_b3 : b8 ≠ b3 := fun e => by rw [e] at hn8; simp only [f1, f2, f3, f6, f7, hb3, hb7, nb7_b3, nb3_b7, nb15_b3, nb3_b15, nb15_b7, nb7_b15, nb18_b3, nb3_b18, nb18_b7, nb7_b18, List.length_map, e1, q1, q2, w1, w2, RR, seval, reduceCtorEq] at hn8
      have nb3_b8 : b3 ≠ b8 := fun e => nb8_b3 e.symm
      have nb8_b7 : b8 ≠ b7 := fun e => by rw [e] at hn8; simp only [f1, f2, f3, f6, f7, hb3, hb7, nb7_b3, nb3_b7, nb15_b3, nb3_b15, nb15_b7, nb7_b15, nb18_b3, nb3_b18, nb18_b7, nb7_b18, List.length_map, e1, q1, q2, w1, w2, RR, seval, reduceCtorEq] at hn8
      have nb7_b8 : b7 ≠ b8 := fun e => nb8_b7 e.symm
      simp only [f1, f2, f3, f6, f7, hb3, hb7, nb7_b3, nb3_b7, nb15_b3, nb3_b15, nb15_b7, nb7_b15, nb18_b3, nb3_b18, nb18_b7, nb7_b18, nb8_b3, nb3_b8, nb8_b7, nb7_b8, List.length_map, e1, q1, q2, w1, w2, RR, seval]
      refine hK _ _ ?_; clear hK K
      refine awp_seq_k fun K hK => ?_
      refine awp_region rfl ?_
      simp only [f1, f2, f3, f6, f7, hb3, hb7, nb7_b3, nb3_b7, nb15_b3, nb3_b15, nb15_b7, nb7_b15, nb18_b3, nb3_b18, nb18_b7, nb7_b18, nb8_b3, nb3_b8, nb8_b7, nb7_b8, List.length_map, e1, q1, q2, w1, w2, RR, seval]
      refine awpB_own fun b27 hn27 => ?_
      have nb27_b3 : b27 ≠ b3 := fun e => by rw [e] at hn27; simp only [f1, f2, f3, f6, f7, hb3, hb7, nb7_b3, nb3_b7, nb15_b3, nb3_b15, nb15_b7, nb7_b15, nb18_b3, nb3_b18, nb18_b7, nb7_b18, nb8_b3, nb3_b8, nb8_b7, nb7_b8, List.length_map, e1, q1, q2, w1, w2, RR, seval, reduceCtorEq] at hn27
      have nb3_b27 : b3 ≠ b27 := fun e => nb27_b3 e.symm
      have nb27_b7 : b27 ≠ b7 := fun e => by rw [e] at hn27; simp only [f1, f2, f3, f6, f7, hb3, hb7, nb7_b3, nb3_b7, nb15_b3, nb3_b15, nb15_b7, nb7_b15, nb18_b3, nb3_b18, nb18_b7, nb7_b18, nb8_b3, nb3_b8, nb8_b7, nb7_b8, List.length_map, e1, q1, q2, w1, w2, RR, seval, reduceCtorEq] at hn27
      have nb7_b27 : b7 ≠ b27 := fun e => nb27_b7 e.symm
      have nb27_b8 : b27 ≠ b8 := fun e => by rw [e] at hn27; simp only [f1, f2, f3, f6, f7, hb3, hb7, nb7_b3, nb3_b7, nb15_b3, nb3_b15, nb15_b7, nb7_b15, nb18_b3, nb3_b18, nb18_b7, nb7_b18, nb8_b3, nb3_b8, nb8_b7, nb7_b8, List.length_map, e1, q1, q2, w1, w2, RR, seval, reduceCtorEq] at hn27
      have nb8_b27 : b8 ≠ b27 := fun e => nb27_b8 e.symm
      simp only [f1, f2, f3, f6, f7, hb3, hb7, nb7_b3, nb3_b7, nb15_b3, nb3_b15, nb15_b7, nb7_b15, nb18_b3, nb3_b18, nb18_b7, nb7_b18, nb8_b3, nb3_b8, nb8_b7, nb7_b8, nb27_b3, nb3_b27, nb27_b7, nb7_b27, nb27_b8, nb8_b27, List.length_map, e1, q1, q2, w1, w2, RR, seval]
      refine awpA_osl (b := b27) (upd_same _ _ _) (by simp only [List.length_map, List.length_append, List.length_cons, List.length_nil, Nat.zero_add]) (by simp only [List.length_map, List.length_append, List.length_cons, List.length_nil]; omega) (by repeat (first | trivial | assumption | refine ⟨?_, ?_⟩)) fun b30 hn30 => ?_
      have nb30_b3 : b30 ≠ b3 := by rcases hn30 with e | e; rw [e]; exact nb27_b3; intro e2; rw [e2] at e; simp only [f1, f2, f3, f6, f7, hb3, hb7, nb7_b3, nb3_b7, nb15_b3, nb3_b15, nb15_b7, nb7_b15, nb18_b3, nb3_b18, nb18_b7, nb7_b18, nb8_b3, nb3_b8, nb8_b7, nb7_b8, nb27_b3, nb3_b27, nb27_b7, nb7_b27, nb27_b8, nb8_b27, List.length_map, e1, q1, q2, w1, w2, RR, seval, reduceCtorEq] at e
      have nb3_b30 : b3 ≠ b30 := fun e => nb30_b3 e.symm
      have nb30_b7 : b30 ≠ b7 := by rcases hn30 with e | e; rw [e]; exact nb27_b7; intro e2; rw [e2] at e; simp only [f1, f2, f3, f6, f7, hb3, hb7, nb7_b3, nb3_b7, nb15_b3, nb3_b15, nb15_b7, nb7_b15, nb18_b3, nb3_b18, nb18_b7, nb7_b18, nb8_b3, nb3_b8, nb8_b7, nb7_b8, nb27_b3, nb3_b27, nb27_b7, nb7_b27, nb27_b8, nb8_b27, List.length_map, e1, q1, q2, w1, w2, RR, seval, reduceCtorEq] at e
      have nb7_b30 : b7 ≠ b30 := fun e => nb30_b7 e.symm
      have nb30_b8 : b30 ≠ b8 := by rcases hn30 with e | e; rw [e]; exact nb27_b8; intro e2; rw [e2] at e; simp only [f1, f2, f3, f6, f7, hb3, hb7, nb7_b3, nb3_b7, nb15_b3, nb3_b15, nb15_b7, nb7_b15, nb18_b3, nb3_b18, nb18_b7, nb7_b18, nb8_b3, nb3_b8, nb8_b7, nb7_b8, nb27_b3, nb3_b27, nb27_b7, nb7_b27, nb27_b8, nb8_b27, List.length_map, e1, q1, q2, w1, w2, RR, seval, reduceCtorEq] at e
      have nb8_b30 : b8 ≠ b30 := fun e => nb30_b8 e.symm
      simp only [List.length_append, f1, f2, f3, f6, f7, hb3, hb7, nb7_b3, nb3_b7, nb15_b3, nb3_b15, nb15_b7, nb7_b15, nb18_b3, nb3_b18, nb18_b7, nb7_b18, nb8_b3, nb3_b8, nb8_b7, nb7_b8, nb27_b3, nb3_b27, nb27_b7, nb7_b27, nb27_b8, nb8_b27, nb30_b3, nb3_b30, nb30_b7, nb7_b30, nb30_b8, nb8_b30, List.length_map, e1, q1, q2, w1, w2, RR, seval]
      refine hK _ _ ?_; clear hK K
      refine awp_seq ?_
      refine awp_name fun F3 M3 hfr hH => ?_
      have g1 := hfr 1
      have g2 := hfr 2
      have g3 := hfr 3
      have g6 := hfr 6
      have g7 := hfr 7
      have gb3 := hH b3
      have gb7 := hH b7
      have gb8 := hH b8
      have gb30 := hH b30
      try simp only [f1, f2, f3, f6, f7, hb3, hb7, nb7_b3, nb3_b7, nb15_b3, nb3_b15, nb15_b7, nb7_b15, nb18_b3, nb3_b18, nb18_b7, nb7_b18, nb8_b3, nb3_b8, nb8_b7, nb7_b8, nb27_b3, nb3_b27, nb27_b7, nb7_b27, nb27_b8, nb8_b27, nb30_b3, nb3_b30, nb30_b7, nb7_b30, nb30_b8, nb8_b30, List.length_map, e1, q1, q2, w1, w2, RR, seval] at g1 g2 g3 g6 g7 gb3 gb7 gb8 gb30
      have f1 := g1; clear g1
      have f2 := g2; clear g2
      have f3 := g3; clear g3
      have f6 := g6; clear g6
      have f7 := g7; clear g7
      have hb3 := gb3; clear gb3
      have hb7 := gb7; clear gb7
      have hb8 := gb8; clear gb8
      have hb30 := gb30; clear gb30
      clear hfr hH
      refine awp_freezeAll hb30 ?_
      refine awp_name fun F4 M4 hfr hH => ?_
      have g1 := hfr 1
      have g2 := hfr 2
      have g3 := hfr 3
      have g6 := hfr 6
      have g7 := hfr 7
      have gb3 := hH b3
      have gb7 := hH b7
      have gb8 := hH b8
      try simp only [frzO_rows, List.map_cons, List.map_nil, Option.map_some, frz_osl, frz_isl, frz_int, frz_str, frz_bool, frz_ptr, frz_nsl, frz_self, and_self, List.length_map, List.length_set, List.length_append, List.length_cons, List.length_nil, w2, if_true, frz_rowsF flat_fu, f1, f2, f3, f6, f7, hb3, hb7, hb8, nb7_b3, nb3_b7, nb15_b3, nb3_b15, nb15_b7, nb7_b15, nb18_b3, nb3_b18, nb18_b7, nb7_b18, nb8_b3, nb3_b8, nb8_b7, nb7_b8, nb27_b3, nb3_b27, nb27_b7, nb7_b27, nb27_b8, nb8_b27, nb30_b3, nb3_b30, nb30_b7, nb7_b30, nb30_b8, nb8_b30, List.length_map, e1, q1, q2, w1, w2, RR, seval] at g1 g2 g3 g6 g7 gb3 gb7 gb8
      have f1 := g1; clear g1
      have f2 := g2; clear g2
      have f3 := g3; clear g3
      have f6 := g6; clear g6
      have f7 := g7; clear g7
      have hb3 := gb3; clear gb3
      have hb7 := gb7; clear gb7
      have hb8 := gb8; clear gb8
      clear hfr hH
      refine awp_seq_k fun K hK => ?_
      refine awp_region rfl ?_
      simp only [f1, f2, f3, f6, f7, hb3, hb7, hb8, nb7_b3, nb3_b7, nb15_b3, nb3_b15, nb15_b7, nb7_b15, nb18_b3, nb3_b18, nb18_b7, nb7_b18, nb8_b3, nb3_b8, nb8_b7, nb7_b8, nb27_b3, nb3_b27, nb27_b7, nb7_b27, nb27_b8, nb8_b27, nb30_b3, nb3_b30, nb30_b7, nb7_b30, nb30_b8, nb8_b30, List.length_map, e1, q1, q2, w1, w2, hz2, RR, seval]
      refine awpC_pure hq (by refine SubR.list ?_; repeat' (first | exact SubR.nil | exact SubRs.nil | exact Sub.refl _ | exact Sub.nsl _ | exact SubRs_self _ | refine SubR.cons ?_ ?_ | refine SubRs.cons ?_ ?_ | refine Sub.isl ?_ | refine Sub.aggR ?_)) ?_
      simp only [f1, f2, f3, f6, f7, hb3, hb7, hb8, nb7_b3, nb3_b7, nb15_b3, nb3_b15, nb15_b7, nb7_b15, nb18_b3, nb3_b18, nb18_b7, nb7_b18, nb8_b3, nb3_b8, nb8_b7, nb7_b8, nb27_b3, nb3_b27, nb27_b7, nb7_b27, nb27_b8, nb8_b27, nb30_b3, nb3_b30, nb30_b7, nb7_b30, nb30_b8, nb8_b30, List.length_map, e1, q1, q2, w1, w2, hz2, RR, seval]
      refine hK _ _ ?_; clear hK K
      refine awp_if true rfl (fun _ => ?_) (fun hc => by cases hc)
      refine awp_seq_k fun K hK => ?_
      refine awp_region rfl ?_
      simp only [f1, f2, f3, f6, f7, hb3, hb7, hb8, nb7_b3, nb3_b7, nb15_b3, nb3_b15, nb15_b7, nb7_b15, nb18_b3, nb3_b18, nb18_b7, nb7_b18, nb8_b3, nb3_b8, nb8_b7, nb7_b8, nb27_b3, nb3_b27, nb27_b7, nb7_b27, nb27_b8, nb8_b27, nb30_b3, nb3_b30, nb30_b7, nb7_b30, nb30_b8, nb8_b30, List.length_map, e1, q1, q2, w1, w2, hz2, RR, seval]
      refine awpC_pure' (awake_con) ?_
      simp only [f1, f2, f3, f6, f7, hb3, hb7, hb8, nb7_b3, nb3_b7, nb15_b3, nb3_b15, nb15_b7, nb7_b15, nb18_b3, nb3_b18, nb18_b7, nb7_b18, nb8_b3, nb3_b8, nb8_b7, nb7_b8, nb27_b3, nb3_b27, nb27_b7, nb7_b27, nb27_b8, nb8_b27, nb30_b3, nb3_b30, nb30_b7, nb7_b30, nb30_b8, nb8_b30, List.length_map, e1, q1, q2, w1, w2, hz2, RR, seval]
      refine hK _ _ ?_; clear hK K
      refine awp_ret ?_; simp only [bodyQ, aresult, ares, f1, f2, f3, f6, f7, hb3, hb7, hb8, nb7_b3, nb3_b7, nb15_b3, nb3_b15, nb15_b7, nb7_b15, nb18_b3, nb3_b18, nb18_b7, nb7_b18, nb8_b3, nb3_b8, nb8_b7, nb7_b8, nb27_b3, nb3_b27, nb27_b7, nb7_b27, nb27_b8, nb8_b27, nb30_b3, nb3_b30, nb30_b7, nb7_b30, nb30_b8, nb8_b30, List.length_map, e1, q1, q2, w1, w2, hz2, RR, seval]
      refine Gives.pure ?_
      rfl
    | true =>
      have hz' := of_decide_eq_true hz
      have c2 := c2 hz'
      rw [hz'] at hq
      refine con_of 50 [.tmp 6] Try.func11 rfl rfl rfl rfl ?_
      refine awp_seq_k fun K hK => ?_
      refine awp_region rfl ?_
      simp only [List.length_map, e1, q1, q2, w1, w2, RR, seval]
      refine awpN_intro fun b3 hn3 => ?_
      simp only [List.length_map, e1, q1, q2, w1, w2, RR, seval]
      refine hK _ _ ?_; clear hK K
      refine awp_seq ?_
      refine awp_seq_k fun K hK => ?_
      refine awp_region rfl ?_
      simp only [List.length_map, e1, q1, q2, w1, w2, RR, seval]
      refine awpC_pure' (hsm) ?_
      simp only [List.length_map, e1, q1, q2, w1, w2, RR, seval]
      refine hK _ _ ?_; clear hK K
      refine awp_if false rfl (fun hc => by cases hc) (fun _ => ?_)
      refine awp_skip ?_; try simp only [RR]
      refine awp_seq_k fun K hK => ?_
      refine awp_region rfl ?_
      simp only [List.length_map, e1, q1, q2, w1, w2, RR, seval]
      refine awpN_intro fun b7 hn7 => ?_
      have nb7_b3 : b7 ≠ b3 := fun e => by rw [e] at hn7; simp only [List.length_map, e1, q1, q2, w1, w2, RR, seval, reduceCtorEq] at hn7
      have nb3_b7 : b3 ≠ b7 := fun e => nb7_b3 e.symm
      simp only [nb7_b3, nb3_b7, List.length_map, e1, q1, q2, w1, w2, RR, seval]
      refine hK _ _ ?_; clear hK K
      refine awp_seq_k fun K hK => ?_
      refine awp_region rfl ?_
      simp only [nb7_b3, nb3_b7, List.length_map, e1, q1, q2, w1, w2, RR, seval]
      refine awpB_own fun b15 hn15 => ?_
      have nb15_b3 : b15 ≠ b3 := fun e => by rw [e] at hn15; simp only [nb7_b3, nb3_b7, List.length_map, e1, q1, q2, w1, w2, RR, seval, reduceCtorEq] at hn15
      have nb3_b15 : b3 ≠ b15 := fun e => nb15_b3 e.symm
      have nb15_b7 : b15 ≠ b7 := fun e => by rw [e] at hn15; simp only [nb7_b3, nb3_b7, List.length_map, e1, q1, q2, w1, w2, RR, seval, reduceCtorEq] at hn15
      have nb7_b15 : b7 ≠ b15 := fun e => nb15_b7 e.symm
      simp only [nb7_b3, nb3_b7, nb15_b3, nb3_b15, nb15_b7, nb7_b15, List.length_map, e1, q1, q2, w1, w2, RR, seval]
      refine awpA_osl (b := b15) (upd_same _ _ _) (by simp only [List.length_map, List.length_append, List.length_cons, List.length_nil, Nat.zero_add]) (by simp only [List.length_map, List.length_append, List.length_cons, List.length_nil]; omega) (by repeat (first | trivial | assumption | refine ⟨?_, ?_⟩)) fun b18 hn18 => ?_
      have nb18_b3 : b18 ≠ b3 := by rcases hn18 with e | e; rw [e]; exact nb15_b3; intro e2; rw [e2] at e; simp only [nb7_b3, nb3_b7, nb15_b3, nb3_b15, nb15_b7, nb7_b15, List.length_map, e1, q1, q2, w1, w2, RR, seval, reduceCtorEq] at e
      have nb3_b18 : b3 ≠ b18 := fun e => nb18_b3 e.symm
      have nb18_b7 : b18 ≠ b7 := by rcases hn18 with e | e; rw [e]; exact nb15_b7; intro e2; rw [e2] at e; simp only [nb7_b3, nb3_b7, nb15_b3, nb3_b15, nb15_b7, nb7_b15, List.length_map, e1, q1, q2, w1, w2, RR, seval, reduceCtorEq] at e
      have nb7_b18 : b7 ≠ b18 := fun e => nb18_b7 e.symm
      simp only [List.length_append, nb7_b3, nb3_b7, nb15_b3, nb3_b15, nb15_b7, nb7_b15, nb18_b3, nb3_b18, nb18_b7, nb7_b18, List.length_map, e1, q1, q2, w1, w2, RR, seval]
      refine hK _ _ ?_; clear hK K
      refine awp_name fun F1 M1 hfr hH => ?_
      have g1 := hfr 1
      have g2 := hfr 2
      have g3 := hfr 3
      have g6 := hfr 6
      have g7 := hfr 7
      have gb3 := hH b3
      have gb7 := hH b7
      have gb18 := hH b18
      try simp only [nb7_b3, nb3_b7, nb15_b3, nb3_b15, nb15_b7, nb7_b15, nb18_b3, nb3_b18, nb18_b7, nb7_b18, List.length_map, e1, q1, q2, w1, w2, RR, seval] at g1 g2 g3 g6 g7 gb3 gb7 gb18
      have f1 := g1; clear g1
      have f2 := g2; clear g2
      have f3 := g3; clear g3
      have f6 := g6; clear g6
      have f7 := g7; clear g7
      have hb3 := gb3; clear gb3
      have hb7 := gb7; clear gb7
      have hb18 := gb18; clear gb18
      clear hfr hH
      refine awp_freezeAll hb18 ?_
      refine awp_name fun F2 M2 hfr hH => ?_
      have g1 := hfr 1
      have g2 := hfr 2
      have g3 := hfr 3
      have g6 := hfr 6
      have g7 := hfr 7
      have gb3 := hH b3
      have gb7 := hH b7
      try simp only [frzO_rows, List.map_cons, List.map_nil, Option.map_some, frz_osl, frz_isl, frz_int, frz_str, frz_bool, frz_ptr, frz_nsl, frz_self, and_self, List.length_map, List.length_set, List.length_append, List.length_cons, List.length_nil, w1, if_true, f1, f2, f3, f6, f7, hb3, hb7, nb7_b3, nb3_b7, nb15_b3, nb3_b15, nb15_b7, nb7_b15, nb18_b3, nb3_b18, nb18_b7, nb7_b18, List.length_map, e1, q1, q2, w1, w2, RR, seval] at g1 g2 g3 g6 g7 gb3 gb7
      have f1 := g1; clear g1
      have f2 := g2; clear g2
      have f3 := g3; clear g3
      have f6 := g6; clear g6
      have f7 := g7; clear g7
      have hb3 := gb3; clear gb3
      have hb7 := gb7; clear gb7
      clear hfr hH
      refine awp_seq_k fun K hK => ?_
      refine awp_region rfl ?_
      simp only [f1, f2, f3, f6, f7, hb3, hb7, nb7_b3, nb3_b7, nb15_b3, nb3_b15, nb15_b7, nb7_b15, nb18_b3, nb3_b18, nb18_b7, nb7_b18, List.length_map, e1, q1, q2, w1, w2, RR, seval]
      refine awpC_pure' (n1) ?_
      simp only [f1, f2, f3, f6, f7, hb3, hb7, nb7_b3, nb3_b7, nb15_b3, nb3_b15, nb15_b7, nb7_b15, nb18_b3, nb3_b18, nb18_b7, nb7_b18, List.length_map, e1, q1, q2, w1, w2, RR, seval]
      refine awpC_pure' (n2) ?_
      simp only [f1, f2, f3, f6, f7, hb3, hb7, nb7_b3, nb3_b7, nb15_b3, nb3_b15, nb15_b7, nb7_b15, nb18_b3, nb3_b18, nb18_b7, nb7_b18, List.length_map, e1, q1, q2, w1, w2, RR, seval]
      refine awpC_pure' (n3) ?_
      simp only [f1, f2, f3, f6, f7, hb3, hb7, nb7_b3, nb3_b7, nb15_b3, nb3_b15, nb15_b7, nb7_b15, nb18_b3, nb3_b18, nb18_b7, nb7_b18, List.length_map, e1, q1, q2, w1, w2, RR, seval]
      refine awpC_pure' (n4) ?_
      simp only [f1, f2, f3, f6, f7, hb3, hb7, nb7_b3, nb3_b7, nb15_b3, nb3_b15, nb15_b7, nb7_b15, nb18_b3, nb3_b18, nb18_b7, nb7_b18, List.length_map, e1, q1, q2, w1, w2, RR, seval]
      refine awpB_sealed ?_
      simp only [f1, f2, f3, f6, f7, hb3, hb7, nb7_b3, nb3_b7, nb15_b3, nb3_b15, nb15_b7, nb7_b15, nb18_b3, nb3_b18, nb18_b7, nb7_b18, List.length_map, e1, q1, q2, w1, w2, RR, seval]
      refine awpN_intro fun b8 hn8 => ?_
      have nb8_b3 : b8 ≠ b3 := fun e => by rw [e] at hn8; simp only [f1, f2, f3, f6, f7, hb3, hb7, nb7_b3, nb3_b7, nb15_b3, nb3_b15, nb15_b7, nb7_b15, nb18_b3, nb3_b18, nb18_b7, nb7_b18, List.length_map, e1, q1, q2, w1, w2, RR, seval, reduceCtorEq] at hn8
      have nb3_b8 : b3 ≠ b8 := fun e => nb8_b3 e.symm
      have nb8_b7 : b8 ≠ b7 := fun e => by rw [e] at hn8; simp only [f1, f2, f3, f6, f7, hb3, hb7, nb7_b3, nb3_b7, nb15_b3, nb3_b15, nb15_b7, nb7_b15, nb18_b3, nb3_b18, nb18_b7, nb7_b18, List.length_map, e1, q1, q2, w1, w2, RR, seval, reduceCtorEq] at hn8
      have nb7_b8 : b7 ≠ b8 := fun e => nb8_b7 e.symm
      simp only [f1, f2, f3, f6, f7, hb3, hb7, nb7_b3, nb3_b7, nb15_b3, nb3_b15, nb15_b7, nb7_b15, nb18_b3, nb3_b18, nb18_b7, nb7_b18, nb8_b3, nb3_b8, nb8_b7, nb7_b8, List.length_map, e1, q1, q2, w1, w2, RR, seval]
      refine hK _ _ ?_; clear hK K
      refine awp_seq_k fun K hK => ?_
      refine awp_region rfl ?_
      simp only [f1, f2, f3, f6, f7, hb3, hb7, nb7_b3, nb3_b7, nb15_b3, nb3_b15, nb15_b7, nb7_b15, nb18_b3, nb3_b18, nb18_b7, nb7_b18, nb8_b3, nb3_b8, nb8_b7, nb7_b8, List.length_map, e1, q1, q2, w1, w2, RR, seval]
      refine awpB_own fun b27 hn27 => ?_
      have nb27_b3 : b27 ≠ b3 := fun e => by rw [e] at hn27; simp only [f1, f2, f3, f6, f7, hb3, hb7, nb7_b3, nb3_b7, nb15_b3, nb3_b15, nb15_b7, nb7_b15, nb18_b3, nb3_b18, nb18_b7, nb7_b18, nb8_b3, nb3_b8, nb8_b7, nb7_b8, List.length_map, e1, q1, q2, w1, w2, RR, seval, reduceCtorEq] at hn27
      have nb3_b27 : b3 ≠ b27 := fun e => nb27_b3 e.symm
      have nb27_b7 : b27 ≠ b7 := fun e => by rw [e] at hn27; simp only [f1, f2, f3, f6, f7, hb3, hb7, nb7_b3, nb3_b7, nb15_b3, nb3_b15, nb15_b7, nb7_b15, nb18_b3, nb3_b18, nb18_b7, nb7_b18, nb8_b3, nb3_b8, nb8_b7, nb7_b8, List.length_map, e1, q1, q2, w1, w2, RR, seval, reduceCtorEq] at hn27
      have nb7_b27 : b7 ≠ b27 := fun e => nb27_b7 e.symm
      have nb27_b8 : b27 ≠ b8 := fun e => by rw [e] at hn27; simp only [f1, f2, f3, f6, f7, hb3, hb7, nb7_b3, nb3_b7, nb15_b3, nb3_b15, nb15_b7, nb7_b15, nb18_b3, nb3_b18, nb18_b7, nb7_b18, nb8_b3, nb3_b8, nb8_b7, nb7_b8, List.length_map, e1, q1, q2, w1, w2, RR, seval, reduceCtorEq] at hn27
      have nb8_b27 : b8 ≠ b27 := fun e => nb27_b8 e.symm
      simp only [f1, f2, f3, f6, f7, hb3, hb7, nb7_b3, nb3_b7, nb15_b3, nb3_b15, nb15_b7, nb7_b15, nb18_b3, nb3_b18, nb18_b7, nb7_b18, nb8_b3, nb3_b8, nb8_b7, nb7_b8, nb27_b3, nb3_b27, nb27_b7, nb7_b27, nb27_b8, nb8_b27, List.length_map, e1, q1, q2, w1, w2, RR, seval]
      refine awpA_osl (b := b27) (upd_same _ _ _) (by simp only [List.length_map, List.length_append, List.length_cons, List.length_nil, Nat.zero_add]) (by simp only [List.length_map, List.length_append, List.length_cons, List.length_nil]; omega) (by repeat (first | trivial | assumption | refine ⟨?_, ?_⟩)) fun b30 hn30 => ?_
      have nb30_b3 : b30 ≠ b3 := by rcases hn30 with e | e; rw [e]; exact nb27_b3; intro e2; rw [e2] at e; simp only [f1, f2, f3, f6, f7, hb3, hb7, nb7_b3, nb3_b7, nb15_b3, nb3_b15, nb15_b7, nb7_b15, nb18_b3, nb3_b18, nb18_b7, nb7_b18, nb8_b3, nb3_b8, nb8_b7, nb7_b8, nb27_b3, nb3_b27, nb27_b7, nb7_b27, nb27_b8, nb8_b27, List.length_map, e1, q1, q2, w1, w2, RR, seval, reduceCtorEq] at e
      have nb3_b30 : b3 ≠ b30 := fun e => nb30_b3 e.symm
      have nb30_b7 : b30 ≠ b7 := by rcases hn30 with e | e; rw [e]; exact nb27_b7; intro e2; rw [e2] at e; simp only [f1, f2, f3, f6, f7, hb3, hb7, nb7_b3, nb3_b7, nb15_b3, nb3_b15, nb15_b7, nb7_b15, nb18_b3, nb3_b18, nb18_b7, nb7_b18, nb8_b3, nb3_b8, nb8_b7, nb7_b8, nb27_b3, nb3_b27, nb27_b7, nb7_b27, nb27_b8, nb8_b27, List.length_map, e1, q1, q2, w1, w2, RR, seval, reduceCtorEq] at e
      have nb7_b30 : b7 ≠ b30 := fun e => nb30_b7 e.symm
      have nb30_b8 : b30 ≠ b8 := by rcases hn30 with e | e; rw [e]; exact nb27_b8; intro e2; rw [e2] at e; simp only [f1, f2, f3, f6, f7, hb3, hb7, nb7_b3, nb3_b7, nb15_b3, nb3_b15, nb15_b7, nb7_b15, nb18_b3, nb3_b18, nb18_b7, nb7_b18, nb8_b3, nb3_b8, nb8_b7, nb7_b8, nb27_b3, nb3_b27, nb27_b7, nb7_b27, nb27_b8, nb8_b27, List.length_map, e1, q1, q2, w1, w2, RR, seval, reduceCtorEq] at e
      have nb8_b30 : b8 ≠ b30 := fun e => nb30_b8 e.symm
      simp only [List.length_append, f1, f2, f3, f6, f7, hb3, hb7, nb7_b3, nb3_b7, nb15_b3, nb3_b15, nb15_b7, nb7_b15, nb18_b3, nb3_b18, nb18_b7, nb7_b18, nb8_b3, nb3_b8, nb8_b7, nb7_b8, nb27_b3, nb3_b27, nb27_b7, nb7_b27, nb27_b8, nb8_b27, nb30_b3, nb3_b30, nb30_b7, nb7_b30, nb30_b8, nb8_b30, List.length_map, e1, q1, q2, w1, w2, RR, seval]
      refine hK _ _ ?_; clear hK K
      refine awp_seq ?_
      refine awp_name fun F3 M3 hfr hH => ?_
      have g1 := hfr 1
      have g2 := hfr 2
      have g3 := hfr 3
      have g6 := hfr 6
      have g7 := hfr 7
      have gb3 := hH b3
      have gb7 := hH b7
      have gb8 := hH b8
      have gb30 := hH b30
      try simp only [f1, f2, f3, f6, f7, hb3, hb7, nb7_b3, nb3_b7, nb15_b3, nb3_b15, nb15_b7, nb7_b15, nb18_b3, nb3_b18, nb18_b7, nb7_b18, nb8_b3, nb3_b8, nb8_b7, nb7_b8, nb27_b3, nb3_b27, nb27_b7, nb7_b27, nb27_b8, nb8_b27, nb30_b3, nb3_b30, nb30_b7, nb7_b30, nb30_b8, nb8_b30, List.length_map, e1, q1, q2, w1, w2, RR, seval] at g1 g2 g3 g6 g7 gb3 gb7 gb8 gb30
      have f1 := g1; clear g1
      have f2 := g2; clear g2
      have f3 := g3; clear g3
      have f6 := g6; clear g6
      have f7 := g7; clear g7
      have hb3 := gb3; clear gb3
      have hb7 := gb7; clear gb7
      have hb8 := gb8; clear gb8
      have hb30 := gb30; clear gb30
      clear hfr hH
      refine awp_freezeAll hb30 ?_
      refine awp_name fun F4 M4 hfr hH => ?_
      have g1 := hfr 1
      have g2 := hfr 2
      have g3 := hfr 3
      have g6 := hfr 6
      have g7 := hfr 7
      have gb3 := hH b3
      have gb7 := hH b7
      have gb8 := hH b8
      try simp only [frzO_rows, List.map_cons, List.map_nil, Option.map_some, frz_osl, frz_isl, frz_int, frz_str, frz_bool, frz_ptr, frz_nsl, frz_self, and_self, List.length_map, List.length_set, List.length_append, List.length_cons, List.length_nil, w2, if_true, frz_rowsF flat_fu, f1, f2, f3, f6, f7, hb3, hb7, hb8, nb7_b3, nb3_b7, nb15_b3, nb3_b15, nb15_b7, nb7_b15, nb18_b3, nb3_b18, nb18_b7, nb7_b18, nb8_b3, nb3_b8, nb8_b7, nb7_b8, nb27_b3, nb3_b27, nb27_b7, nb7_b27, nb27_b8, nb8_b27, nb30_b3, nb3_b30, nb30_b7, nb7_b30, nb30_b8, nb8_b30, List.length_map, e1, q1, q2, w1, w2, RR, seval] at g1 g2 g3 g6 g7 gb3 gb7 gb8
      have f1 := g1; clear g1
      have f2 := g2; clear g2
      have f3 := g3; clear g3
      have f6 := g6; clear g6
      have f7 := g7; clear g7
      have hb3 := gb3; clear gb3
      have hb7 := gb7; clear gb7
      have hb8 := gb8; clear gb8
      clear hfr hH
      refine awp_seq_k fun K hK => ?_
      refine awp_region rfl ?_
      simp only [f1, f2, f3, f6, f7, hb3, hb7, hb8, nb7_b3, nb3_b7, nb15_b3, nb3_b15, nb15_b7, nb7_b15, nb18_b3, nb3_b18, nb18_b7, nb7_b18, nb8_b3, nb3_b8, nb8_b7, nb7_b8, nb27_b3, nb3_b27, nb27_b7, nb7_b27, nb27_b8, nb8_b27, nb30_b3, nb3_b30, nb30_b7, nb7_b30, nb30_b8, nb8_b30, List.length_map, e1, q1, q2, w1, w2, RR, seval]
      refine awpC_pure hq (by refine SubR.list ?_; repeat' (first | exact SubR.nil | exact SubRs.nil | exact Sub.refl _ | exact Sub.nsl _ | exact SubRs_self _ | refine SubR.cons ?_ ?_ | refine SubRs.cons ?_ ?_ | refine Sub.isl ?_ | refine Sub.aggR ?_)) ?_
      simp only [f1, f2, f3, f6, f7, hb3, hb7, hb8, nb7_b3, nb3_b7, nb15_b3, nb3_b15, nb15_b7, nb7_b15, nb18_b3, nb3_b18, nb18_b7, nb7_b18, nb8_b3, nb3_b8, nb8_b7, nb7_b8, nb27_b3, nb3_b27, nb27_b7, nb7_b27, nb27_b8, nb8_b27, nb30_b3, nb3_b30, nb30_b7, nb7_b30, nb30_b8, nb8_b30, List.length_map, e1, q1, q2, w1, w2, RR, seval]
      refine hK _ _ ?_; clear hK K
      refine awp_if false rfl (fun hc => by cases hc) (fun _ => ?_)
      refine awp_skip ?_; try simp only [RR]
      refine awp_seq_k fun K hK => ?_
      refine awp_region_draw2 (fun x => x ≠ b3 ∧ x ≠ b7 ∧ x ≠ b8) [(0, 1), (1, 3), (2, 1), (3, 3), (4, 3), (5, 3), (7, 0), (8, 3), (9, 3), (10, 3), (6, 1), (11, 1), (12, 3), (13, 3), (14, 3)] [] draws (by kernel_rfl) rfl rfl ?_
      simp only [emitF, markOf, touch_mp, touch_imp, touch_nmp, ne_eq, not_true_eq_false, and_false, false_and, not_false_eq_true, f1, f2, f3, f6, f7, hb3, hb7, hb8, nb7_b3, nb3_b7, nb15_b3, nb3_b15, nb15_b7, nb7_b15, nb18_b3, nb3_b18, nb18_b7, nb7_b18, nb8_b3, nb3_b8, nb8_b7, nb7_b8, nb27_b3, nb3_b27, nb27_b7, nb7_b27, nb27_b8, nb8_b27, nb30_b3, nb3_b30, nb30_b7, nb7_b30, nb30_b8, nb8_b30, List.length_map, e1, q1, q2, w1, w2, acells, Option.map_some, decide_true, Bool.and_self, Bool.and_true, RR, seval]
      all_goals try (refine awpC_pure' (awake_con) ?_; simp only [emitF, markOf, touch_mp, touch_imp, touch_nmp, ne_eq, not_true_eq_false, and_false, false_and, not_false_eq_true, f1, f2, f3, f6, f7, hb3, hb7, hb8, nb7_b3, nb3_b7, nb15_b3, nb3_b15, nb15_b7, nb7_b15, nb18_b3, nb3_b18, nb18_b7, nb7_b18, nb8_b3, nb3_b8, nb8_b7, nb7_b8, nb27_b3, nb3_b27, nb27_b7, nb7_b27, nb27_b8, nb8_b27, nb30_b3, nb3_b30, nb30_b7, nb7_b30, nb30_b8, nb8_b30, List.length_map, e1, q1, q2, w1, w2, acells, Option.map_some, decide_true, Bool.and_self, Bool.and_true, RR, seval])
      all_goals try ((first | refine awpG_splitN (fun h => ?_) (fun h => ?_) | refine awpG_split (fun h => ?_) (fun h => ?_)) <;> simp only [h, emitF, markOf, touch_mp, touch_imp, touch_nmp, ne_eq, not_true_eq_false, and_false, false_and, not_false_eq_true, f1, f2, f3, f6, f7, hb3, hb7, hb8, nb7_b3, nb3_b7, nb15_b3, nb3_b15, nb15_b7, nb7_b15, nb18_b3, nb3_b18, nb18_b7, nb7_b18, nb8_b3, nb3_b8, nb8_b7, nb7_b8, nb27_b3, nb3_b27, nb27_b7, nb7_b27, nb27_b8, nb8_b27, nb30_b3, nb3_b30, nb30_b7, nb7_b30, nb30_b8, nb8_b30, List.length_map, e1, q1, q2, w1, w2, acells, Option.map_some, decide_true, Bool.and_self, Bool.and_true, RR, seval])
      all_goals try (refine awpC_pure' (c1) ?_; simp only [emitF, markOf, touch_mp, touch_imp, touch_nmp, ne_eq, not_true_eq_false, and_false, false_and, not_false_eq_true, f1, f2, f3, f6, f7, hb3, hb7, hb8, nb7_b3, nb3_b7, nb15_b3, nb3_b15, nb15_b7, nb7_b15, nb18_b3, nb3_b18, nb18_b7, nb7_b18, nb8_b3, nb3_b8, nb8_b7, nb7_b8, nb27_b3, nb3_b27, nb27_b7, nb7_b27, nb27_b8, nb8_b27, nb30_b3, nb3_b30, nb30_b7, nb7_b30, nb30_b8, nb8_b30, List.length_map, e1, q1, q2, w1, w2, acells, Option.map_some, decide_true, Bool.and_self, Bool.and_true, RR, seval])
      all_goals try (refine awpC_pure c2 (by refine SubR.list ?_; repeat' (first | exact SubR.nil | exact SubRs.nil | exact Sub.refl _ | exact Sub.nsl _ | exact SubRs_self _ | refine SubR.cons ?_ ?_ | refine SubRs.cons ?_ ?_ | refine Sub.isl ?_ | refine Sub.aggR ?_)) ?_; simp only [emitF, markOf, touch_mp, touch_imp, touch_nmp, ne_eq, not_true_eq_false, and_false, false_and, not_false_eq_true, f1, f2, f3, f6, f7, hb3, hb7, hb8, nb7_b3, nb3_b7, nb15_b3, nb3_b15, nb15_b7, nb7_b15, nb18_b3, nb3_b18, nb18_b7, nb7_b18, nb8_b3, nb3_b8, nb8_b7, nb7_b8, nb27_b3, nb3_b27, nb27_b7, nb7_b27, nb27_b8, nb8_b27, nb30_b3, nb3_b30, nb30_b7, nb7_b30, nb30_b8, nb8_b30, List.length_map, e1, q1, q2, w1, w2, acells, Option.map_some, decide_true, Bool.and_self, Bool.and_true, RR, seval])
      all_goals
        refine hK _ _ ?_; clear hK K
        refine awp_ret ?_; simp only [bodyQ, aresult, ares, f1, f2, f3, f6, f7, hb3, hb7, hb8, nb7_b3, nb3_b7, nb15_b3, nb3_b15, nb15_b7, nb7_b15, nb18_b3, nb3_b18, nb18_b7, nb7_b18, nb8_b3, nb3_b8, nb8_b7, nb7_b8, nb27_b3, nb3_b27, nb27_b7, nb7_b27, nb27_b8, nb8_b27, nb30_b3, nb3_b30, nb30_b7, nb7_b30, nb30_b8, nb8_b30, List.length_map, e1, q1, q2, w1, w2, acells, Option.map_some, decide_true, Bool.and_self, Bool.and_true, RR, seval]
        refine Gives.pure ?_
        rfl
end Go.Proofs.Ytlokndnkpleegaa
