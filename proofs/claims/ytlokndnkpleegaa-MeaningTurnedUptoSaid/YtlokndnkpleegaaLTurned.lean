/- Chapter 18: MeaningTurned. -/
import Derived.Test.YtlokndnkpleegaaMtu
import Derived.Test.YtlokndnkpleegaaMst
import Derived.Test.YtlokndnkpleegaaAlSf
set_option linter.unusedSimpArgs false
set_option linter.unusedVariables false
set_option maxRecDepth 10000
namespace Go.Al
theorem turn_rowT {s : Sm} {a : Ex} (hk : s.kind = 4) (he : s.es = [a]) : (turnM s).row = [.int .i64 4, .str [], .isl 5 [[.int .i64 7, .int .i64 0, .int .u32 0, .str [], .isl 5 [[.int .i64 a.kind, .int .i64 a.op, .int .u32 a.num, .str a.name, .isl 5 (a.kids.map Ex.row)]]]], .isl 5 (s.els.map Sm.row), .isl 5 (s.thn.map Sm.row)] := by
  have h : turnM s = .mk 4 [] [.mk 7 0 0 [] [a]] s.els s.thn := by unfold turnM; rw [he]; simp only [if_pos hk]
  rw [h, Sm.row_eq]
  simp only [Sm.kind, Sm.name, Sm.es, Sm.thn, Sm.els, List.map_cons, List.map_nil, Ex.row, rowsE]
  rw [a.row_eq]
theorem turn_rowF {s : Sm} (hk : ¬ s.kind = 4) : (turnM s).row = [.int .i64 s.kind, .str s.name, .isl 5 (s.es.map Ex.row), .isl 5 (s.thn.map Sm.row), .isl 5 (s.els.map Sm.row)] := by
  have h : turnM s = s := by
    unfold turnM
    split
    · rw [if_neg hk]
    · rfl
  rw [h, Sm.row_eq]
end Go.Al
namespace Go.Proofs.Ytlokndnkpleegaa
open Go.Al
theorem small_len2 {p : Pg} {inp : Str} (h : smallB p inp = true) : p.vars.length ≤ 20 ∧ p.arrs.length ≤ 10 ∧ p.funs.length ≤ 64 := by
  simp only [smallB, Bool.and_eq_true, decide_eq_true_eq] at h
  have hr := (sound_all h.1.2).1
  simp only [rightP, Bool.and_eq_true, decide_eq_true_eq, List.all_eq_true] at hr
  exact ⟨h.1.1.1.2, h.1.1.2, hr.1.1.2⟩
theorem msumG {f : Fu} : ∀ {l : List Fu}, f ∈ l → cntF f ≤ sumF l
  | x :: l, h => by
    rcases List.mem_cons.1 h with rfl | h
    · simp only [sumF]; omega
    · have := msumG h; simp only [sumF]; omega
theorem right_if {l : List Sm} {level : Int} (h : rightS l level = true) {s : Sm} (hs : s ∈ l) (hk : s.kind = 4) : ∃ a, s.es = [a] := by
  induction l with
  | nil => cases hs
  | cons x l ih =>
    rw [rightS_cons, Bool.and_eq_true] at h
    rcases List.mem_cons.1 hs with rfl | hs
    · have h1 := h.1
      simp only [rightM, Bool.and_eq_true] at h1
      have hl := h1.1.1.1.2
      unfold fitS at hl
      rw [if_pos (by omega)] at hl
      simp only [decide_eq_true_eq] at hl
      match he : s.es, hl with
      | [a], _ => exact ⟨a, rfl⟩
    · exact ih h.2 hs
set_option maxHeartbeats 4000000 in
theorem MeaningTurned_con (p : Pg) (hp : Bulk p) (inp : Str) (w : Int) (hw : 0 ≤ w ∧ w ≤ 255) : PCon env 9 [p.av, .str inp, .int .u8 w] (.bool true) := by
  have hsm := small_con p hp inp
  have hsf := fun h => small_few hp (inp := inp) h
  have hav : p.av = .agg p.row := rfl
  have hrow : p.row = [.isl 1 (p.vars.map strRow), .isl 2 (p.arrs.map Ar.row), .isl 5 (p.funs.map Fu.row)] := rfl
  cases hs : smallB p inp with
  | false =>
    rw [hs] at hsm
    rw [hav, hrow] at *
    refine con_of 101 [.tmp 6] Try.func9 rfl rfl rfl rfl ?_
    refine awp_seq_k fun K hK => ?_
    refine awp_region rfl ?_
    simp only [List.length_map, RR, seval]
    refine awpN_intro fun b3 hn3 => ?_
    simp only [List.length_map, RR, seval]
    refine hK _ _ ?_; clear hK K
    refine awp_seq ?_
    refine awp_seq_k fun K hK => ?_
    refine awp_region rfl ?_
    simp only [List.length_map, RR, seval]
    all_goals try (refine awpC_pure' (hsm) ?_; simp only [List.length_map, RR, seval])
    all_goals try ((first | refine awpG_splitN (fun h => ?_) (fun h => ?_) | refine awpG_split (fun h => ?_) (fun h => ?_)) <;> simp only [h, List.length_map, RR, seval])
    all_goals
      refine hK _ _ ?_; clear hK K
      refine awp_if true rfl (fun _ => ?_) (fun hc => by cases hc)
      refine awp_seq_k fun K hK => ?_
      refine awp_region rfl ?_
      simp only [List.length_map, RR, seval]
      refine awpC_pure' (awake_con) ?_
      simp only [List.length_map, RR, seval]
      refine hK _ _ ?_; clear hK K
      refine awp_ret ?_; simp only [bodyQ, aresult, ares, List.length_map, RR, seval]
      refine Gives.pure ?_
      rfl
  | true =>
    rw [hs] at hsm
    obtain ⟨hf, h0, hin⟩ := hsf hs
    obtain ⟨hvl, hal, hfl⟩ := small_len2 hs
    have hok := sound_ok hf h0
    have hf1 := hok.f1
    have hlt : p.funs.length - 1 < p.funs.length := by omega
    obtain ⟨g, hg0⟩ : ∃ g, p.funs[p.funs.length - 1]? = some g := ⟨_, List.getElem?_eq_getElem hlt⟩
    have hgm := List.mem_of_getElem? hg0
    have hrt := (sound_all h0).1
    simp only [rightP, Bool.and_eq_true, decide_eq_true_eq, List.all_eq_true] at hrt
    have hrf := hrt.2 g hgm
    simp only [rightF, Bool.and_eq_true] at hrf
    have hbody := hrf.2
    clear hrt hrf
    have hsz : szS g.body ≤ 1000 := by
      have hz : sizP p ≤ 120 := by simp only [smallB, Bool.and_eq_true, decide_eq_true_eq] at hs; exact hs.2
      have := msumG hgm
      simp only [sizP] at hz
      simp only [cntF] at this
      omega
    have hg := getF hg0
    have hqf := turn_few hf hf1 hg0 hsz
    have hq := rSound_con (turnP p g) hqf
    obtain ⟨n, hn⟩ := Int.eq_ofNat_of_zero_le hw.1
    subst hn
    have ha2 := hw.2
    obtain ⟨k1, ⟨x1, o1, t1⟩, r1⟩ := sound_run h0 inp (n : Int)
    have c1 := Run_con p hok inp (by omega) (n : Int) ⟨by omega, by omega⟩ r1
    have c2 := fun hz : soundT (turnP p g) = 0 => Run_con (turnP p g) (sound_ok hqf hz) inp (by omega) (n : Int) ⟨by omega, by omega⟩ (turn_run h0 hg0 inp (n : Int) r1)
    have e1 : IntKind.wrap .i64 (n : Int) = (n : Int) := by rw [IntWalk.i64_in _ (by omega)]
    have e2 : IntKind.wrap .i64 ((p.funs.length : Int) - 1) = ((p.funs.length - 1 : Nat) : Int) := by rw [IntWalk.i64_in _ (by omega)]; omega
    have e3 : decide ((p.funs.length : Int) = 0) = false := decide_eq_false (by omega)
    have z1 : ((p.funs.length - 1 : Nat) : Int) < (p.funs.length : Int) := by omega
    have z2 : ((p.funs.length - 1 : Nat) : Int) ≤ (p.funs.length : Int) := by omega
    have hqv : (turnP p g).av = .agg [.isl 1 (p.vars.map strRow), .isl 2 (p.arrs.map Ar.row), .isl 5 ((p.funs.map Fu.row).take (p.funs.length - 1) ++ [[.str g.name, .isl 1 (g.params.map strRow), .isl 1 (g.locs.map strRow), .bool g.word, .isl 5 ((g.body.map turnM).map Sm.row)]])] := by
      simp only [turnP, Pg.av, Pg.row, turnF, Fu.row, List.map_cons, List.map_nil, List.map_append, List.map_take]
    have hbl := lenS_sz g.body
    clear r1 hok hf h0 hsf hg0 hlt hgm
    rw [hav, hrow] at hsm c1
    rw [hqv] at hq c2
    simp only [resV] at c1 c2
    rw [hav, hrow]
    have q1 := one_fus p.funs
    have q2 : ((p.funs.map Fu.row).take (p.funs.length - 1)).all (fun r => r.all one) = true := by rw [← List.map_take]; exact one_fus _
    have q3 : min (p.funs.length - 1) p.funs.length = p.funs.length - 1 := by omega
    have q4 : ((p.funs.map Fu.row).take (p.funs.length - 1)).length = p.funs.length - 1 := by rw [List.length_take, List.length_map]; omega
    clear hav hrow hqv hqf
    generalize hm1 : p.funs.length - 1 = m1 at *
    generalize soundT (turnP p g) = z at *
    refine con_of 101 [.tmp 6] Try.func9 rfl rfl rfl rfl ?_
    refine awp_seq_k fun K hK => ?_
    refine awp_region rfl ?_
    simp only [List.length_map, Nat.sub_zero, Nat.zero_add, List.length_take, q3, e1, e2, e3, z1, z2, hg, q1, q2, RR, seval]
    refine awpN_intro fun b3 hn3 => ?_
    simp only [List.length_map, Nat.sub_zero, Nat.zero_add, List.length_take, q3, e1, e2, e3, z1, z2, hg, q1, q2, RR, seval]
    refine hK _ _ ?_; clear hK K
    refine awp_seq ?_
    refine awp_seq_k fun K hK => ?_
    refine awp_region rfl ?_
    simp only [List.length_map, Nat.sub_zero, Nat.zero_add, List.length_take, q3, e1, e2, e3, z1, z2, hg, q1, q2, RR, seval]
    all_goals try (refine awpC_pure' (hsm) ?_; simp only [List.length_map, Nat.sub_zero, Nat.zero_add, List.length_take, q3, e1, e2, e3, z1, z2, hg, q1, q2, RR, seval])
    all_goals try ((first | refine awpG_splitN (fun h => ?_) (fun h => ?_) | refine awpG_split (fun h => ?_) (fun h => ?_)) <;> simp only [h, List.length_map, Nat.sub_zero, Nat.zero_add, List.length_take, q3, e1, e2, e3, z1, z2, hg, q1, q2, RR, seval])
    all_goals
      refine hK _ _ ?_; clear hK K
      refine awp_if false rfl (fun hc => by cases hc) (fun _ => ?_)
      refine awp_skip ?_; try simp only [RR]
      refine awp_seq_k fun K hK => ?_
      refine awp_region rfl ?_
      simp only [List.length_map, Nat.sub_zero, Nat.zero_add, List.length_take, q3, e1, e2, e3, z1, z2, hg, q1, q2, RR, seval]
      refine awpN_intro fun b7 hn7 => ?_
      have nb7_b3 : b7 ≠ b3 := fun e => by rw [e] at hn7; simp only [List.length_map, Nat.sub_zero, Nat.zero_add, List.length_take, q3, e1, e2, e3, z1, z2, hg, q1, q2, RR, seval, reduceCtorEq] at hn7
      have nb3_b7 : b3 ≠ b7 := fun e => nb7_b3 e.symm
      simp only [nb7_b3, nb3_b7, List.length_map, Nat.sub_zero, Nat.zero_add, List.length_take, q3, e1, e2, e3, z1, z2, hg, q1, q2, RR, seval]
      refine hK _ _ ?_; clear hK K
      refine awp_seq_k fun K hK => ?_
      refine awp_region rfl ?_
      simp only [nb7_b3, nb3_b7, List.length_map, Nat.sub_zero, Nat.zero_add, List.length_take, q3, e1, e2, e3, z1, z2, hg, q1, q2, RR, seval]
      refine hK _ _ ?_; clear hK K
      refine awp_seq ?_
      refine awp_seq_k fun K hK => ?_
      refine awp_region rfl ?_
      simp only [nb7_b3, nb3_b7, List.length_map, Nat.sub_zero, Nat.zero_add, List.length_take, q3, e1, e2, e3, z1, z2, hg, q1, q2, RR, seval]
      refine hK _ _ ?_; clear hK K
      refine awp_name fun F1 M1 hfr hH => ?_
      have g1 := hfr 1
      have g2 := hfr 2
      have g3 := hfr 3
      have g6 := hfr 6
      have g7 := hfr 7
      have g8 := hfr 8
      have g9 := hfr 9
      have gb3 := hH b3
      have gb7 := hH b7
      try simp only [nb7_b3, nb3_b7, List.length_map, Nat.sub_zero, Nat.zero_add, List.length_take, q3, e1, e2, e3, z1, z2, hg, q1, q2, RR, seval] at g1 g2 g3 g6 g7 g8 g9 gb3 gb7
      have f1 := g1; clear g1
      have f2 := g2; clear g2
      have f3 := g3; clear g3
      have f6 := g6; clear g6
      have f7 := g7; clear g7
      have f8 := g8; clear g8
      have f9 := g9; clear g9
      have hb3 := gb3; clear gb3
      have hb7 := gb7; clear gb7
      clear hfr hH
      refine awp_block ?_
      refine awp_each [1, 2, 3, 6, 7] (g.body.length) (fun k fr M => fr 9 = .int .i64 (k : Nat) ∧ M b3 = M1 b3 ∧ M b7 = M1 b7 ∧ OwnL 5 (fr 8) (((g.body.take k).map turnM).map Sm.row) M ∧ Al.off (fr 8) b7) ⟨f9, rfl, rfl, .inl ⟨f8, rfl⟩, (by rw [f8]; exact fun _ _ h => by cases h)⟩ ?_
      rintro k F2 M2 hk0 ⟨fx, gb3, gb7, hown, ho7⟩ agx K0 hK0
      have f1 := (agx 1 rfl).trans f1
      have f2 := (agx 2 rfl).trans f2
      have f3 := (agx 3 rfl).trans f3
      have f6 := (agx 6 rfl).trans f6
      have f7 := (agx 7 rfl).trans f7
      have f9 := fx; clear fx
      have hb3 := gb3.trans hb3
      have hb7 := gb7.trans hb7
      have ag0 := agree.refl [1, 2, 3, 6, 7] F2
      have e0_b3 := gb3; clear gb3
      have e0_b7 := gb7; clear gb7
      clear agx
      obtain ⟨v8, f8⟩ : ∃ v, F2 8 = v := ⟨_, rfl⟩
      rw [f8] at hown ho7
      refine awp_seq ?_
      refine awp_seq_k fun K hK => ?_
      refine awp_region rfl ?_
      simp only [f1, f2, f3, f6, f7, f9, f8, hb3, hb7, nb7_b3, nb3_b7, List.length_map, Nat.sub_zero, Nat.zero_add, List.length_take, q3, e1, e2, e3, z1, z2, hg, q1, q2, RR, seval]
      refine hK _ _ ?_; clear hK K
      refine awp_if _ rfl (fun hc => ?_) (fun hc => ?_)
      · have hlt0 : k < g.body.length := by have := of_decide_eq_true hc; omega
        clear hc
        have hgs := getS (List.getElem?_eq_getElem hlt0)
        have htk : g.body.take (k + 1) = g.body.take k ++ [g.body[k]] := List.take_succ_eq_append_getElem hlt0
        have htl : (g.body.take k).length ≤ g.body.length := by rw [List.length_take]; omega
        have hri := right_if hbody (List.getElem_mem hlt0)
        generalize g.body[k] = e at hgs htk hri
        have hrT := fun h1 a h2 => turn_rowT (s := e) (a := a) h1 h2
        have hrF := fun h1 => turn_rowF (s := e) h1
        refine awp_skip ?_; try simp only [RR]
        refine awp_seq ?_
        refine awp_block ?_
        refine awp_seq_k fun K hK => ?_
        refine awp_region rfl ?_
        simp only [f1, f2, f3, f6, f7, f9, f8, hb3, hb7, nb7_b3, nb3_b7, List.length_map, Nat.sub_zero, Nat.zero_add, List.length_take, q3, e1, e2, e3, z1, z2, hg, q1, q2, hgs, RR, seval]
        refine awpN_intro fun b10 hn10 => ?_
        have nb10_b3 : b10 ≠ b3 := fun e => by rw [e] at hn10; simp only [f1, f2, f3, f6, f7, f9, f8, hb3, hb7, nb7_b3, nb3_b7, List.length_map, Nat.sub_zero, Nat.zero_add, List.length_take, q3, e1, e2, e3, z1, z2, hg, q1, q2, hgs, RR, seval, reduceCtorEq] at hn10
        have nb3_b10 : b3 ≠ b10 := fun e => nb10_b3 e.symm
        have nb10_b7 : b10 ≠ b7 := fun e => by rw [e] at hn10; simp only [f1, f2, f3, f6, f7, f9, f8, hb3, hb7, nb7_b3, nb3_b7, List.length_map, Nat.sub_zero, Nat.zero_add, List.length_take, q3, e1, e2, e3, z1, z2, hg, q1, q2, hgs, RR, seval, reduceCtorEq] at hn10
        have nb7_b10 : b7 ≠ b10 := fun e => nb10_b7 e.symm
        simp only [f1, f2, f3, f6, f7, f9, f8, hb3, hb7, nb7_b3, nb3_b7, nb10_b3, nb3_b10, nb10_b7, nb7_b10, List.length_map, Nat.sub_zero, Nat.zero_add, List.length_take, q3, e1, e2, e3, z1, z2, hg, q1, q2, hgs, RR, seval]
        refine hK _ _ ?_; clear hK K
        have ho10 := hown.new (b := b10) (by first | exact hn10 | (have q := hn10; simp only [f1, f2, f3, f6, f7, f9, f8, hb3, hb7, nb7_b3, nb3_b7, nb10_b3, nb3_b10, nb10_b7, nb7_b10, List.length_map, Nat.sub_zero, Nat.zero_add, List.length_take, q3, e1, e2, e3, z1, z2, hg, q1, q2, hgs, upd_app, RR, seval] at q; exact q))
        refine awp_seq ?_
        refine awp_seq_k fun K hK => ?_
        refine awp_region rfl ?_
        simp only [f1, f2, f3, f6, f7, f9, f8, hb3, hb7, nb7_b3, nb3_b7, nb10_b3, nb3_b10, nb10_b7, nb7_b10, List.length_map, Nat.sub_zero, Nat.zero_add, List.length_take, q3, e1, e2, e3, z1, z2, hg, q1, q2, hgs, RR, seval]
        refine hK _ _ ?_; clear hK K
        refine awp_if _ rfl (fun hc9 => ?_) (fun hc9 => ?_)
        · try (cases hc9; done)
          all_goals
            have hk4 := of_decide_eq_true hc9
            obtain ⟨a, hea⟩ := hri hk4
            have hrT := hrT hk4 a hea
            have har := a.row_eq
            refine awp_seq_k fun K hK => ?_
            refine awp_region rfl ?_
            simp only [f1, f2, f3, f6, f7, f9, f8, hb3, hb7, nb7_b3, nb3_b7, nb10_b3, nb3_b10, nb10_b7, nb7_b10, List.length_map, Nat.sub_zero, Nat.zero_add, List.length_take, q3, e1, e2, e3, z1, z2, hg, q1, q2, hgs, hea, List.map_cons, List.map_nil, har, RR, seval]
            refine awpB_sealed ?_
            simp only [f1, f2, f3, f6, f7, f9, f8, hb3, hb7, nb7_b3, nb3_b7, nb10_b3, nb3_b10, nb10_b7, nb7_b10, List.length_map, Nat.sub_zero, Nat.zero_add, List.length_take, q3, e1, e2, e3, z1, z2, hg, q1, q2, hgs, hea, List.map_cons, List.map_nil, har, RR, seval]
            refine awpN_intro fun b11 hn11 => ?_
            have nb11_b3 : b11 ≠ b3 := fun e => by rw [e] at hn11; simp only [f1, f2, f3, f6, f7, f9, f8, hb3, hb7, nb7_b3, nb3_b7, nb10_b3, nb3_b10, nb10_b7, nb7_b10, List.length_map, Nat.sub_zero, Nat.zero_add, List.length_take, q3, e1, e2, e3, z1, z2, hg, q1, q2, hgs, hea, List.map_cons, List.map_nil, har, RR, seval, reduceCtorEq] at hn11
            have nb3_b11 : b3 ≠ b11 := fun e => nb11_b3 e.symm
            have nb11_b7 : b11 ≠ b7 := fun e => by rw [e] at hn11; simp only [f1, f2, f3, f6, f7, f9, f8, hb3, hb7, nb7_b3, nb3_b7, nb10_b3, nb3_b10, nb10_b7, nb7_b10, List.length_map, Nat.sub_zero, Nat.zero_add, List.length_take, q3, e1, e2, e3, z1, z2, hg, q1, q2, hgs, hea, List.map_cons, List.map_nil, har, RR, seval, reduceCtorEq] at hn11
            have nb7_b11 : b7 ≠ b11 := fun e => nb11_b7 e.symm
            have nb11_b10 : b11 ≠ b10 := fun e => by rw [e] at hn11; simp only [f1, f2, f3, f6, f7, f9, f8, hb3, hb7, nb7_b3, nb3_b7, nb10_b3, nb3_b10, nb10_b7, nb7_b10, List.length_map, Nat.sub_zero, Nat.zero_add, List.length_take, q3, e1, e2, e3, z1, z2, hg, q1, q2, hgs, hea, List.map_cons, List.map_nil, har, RR, seval, reduceCtorEq] at hn11
            have nb10_b11 : b10 ≠ b11 := fun e => nb11_b10 e.symm
            simp only [f1, f2, f3, f6, f7, f9, f8, hb3, hb7, nb7_b3, nb3_b7, nb10_b3, nb3_b10, nb10_b7, nb7_b10, nb11_b3, nb3_b11, nb11_b7, nb7_b11, nb11_b10, nb10_b11, List.length_map, Nat.sub_zero, Nat.zero_add, List.length_take, q3, e1, e2, e3, z1, z2, hg, q1, q2, hgs, hea, List.map_cons, List.map_nil, har, RR, seval]
            refine hK _ _ ?_; clear hK K
            have ho11 := hown.new (b := b11) (by have q := hn11; simp only [f1, f2, f3, f6, f7, f9, f8, hb3, hb7, nb7_b3, nb3_b7, nb10_b3, nb3_b10, nb10_b7, nb7_b10, nb11_b3, nb3_b11, nb11_b7, nb7_b11, nb11_b10, nb10_b11, List.length_map, Nat.sub_zero, Nat.zero_add, List.length_take, q3, e1, e2, e3, z1, z2, hg, q1, q2, hgs, hea, List.map_cons, List.map_nil, har, upd_app, RR, seval] at q; exact q)
            refine awp_region rfl ?_
            simp only [f1, f2, f3, f6, f7, f9, f8, hb3, hb7, nb7_b3, nb3_b7, nb10_b3, nb3_b10, nb10_b7, nb7_b10, nb11_b3, nb3_b11, nb11_b7, nb7_b11, nb11_b10, nb10_b11, List.length_map, Nat.sub_zero, Nat.zero_add, List.length_take, q3, e1, e2, e3, z1, z2, hg, q1, q2, hgs, hea, List.map_cons, List.map_nil, har, RR, seval]
            refine awpB_sealed ?_
            simp only [f1, f2, f3, f6, f7, f9, f8, hb3, hb7, nb7_b3, nb3_b7, nb10_b3, nb3_b10, nb10_b7, nb7_b10, nb11_b3, nb3_b11, nb11_b7, nb7_b11, nb11_b10, nb10_b11, List.length_map, Nat.sub_zero, Nat.zero_add, List.length_take, q3, e1, e2, e3, z1, z2, hg, q1, q2, hgs, hea, List.map_cons, List.map_nil, har, RR, seval]
            refine awp_name fun F3 M3 hfr hH => ?_
            have g1 := hfr 1
            have g2 := hfr 2
            have g3 := hfr 3
            have g6 := hfr 6
            have g7 := hfr 7
            have g8 := hfr 8
            have g9 := hfr 9
            have g10 := hfr 10
            have g11 := hfr 11
            have gb3 := hH b3
            have gb7 := hH b7
            have gb10 := hH b10
            have gb11 := hH b11
            try simp only [f1, f2, f3, f6, f7, f9, f8, hb3, hb7, nb7_b3, nb3_b7, nb10_b3, nb3_b10, nb10_b7, nb7_b10, nb11_b3, nb3_b11, nb11_b7, nb7_b11, nb11_b10, nb10_b11, List.length_map, Nat.sub_zero, Nat.zero_add, List.length_take, q3, e1, e2, e3, z1, z2, hg, q1, q2, hgs, hea, List.map_cons, List.map_nil, har, RR, seval] at g1 g2 g3 g6 g7 g8 g9 g10 g11 gb3 gb7 gb10 gb11
            have ag0 : agree [1, 2, 3, 6, 7] F2 F3 := agree.same hfr (by repeat (first | exact ag0 | refine agree.upd rfl ?_))
            have e0_b3 := (hH b3).trans (by first | exact e0_b3 | (simp only [nb7_b3, nb3_b7, nb10_b3, nb3_b10, nb10_b7, nb7_b10, nb11_b3, nb3_b11, nb11_b7, nb7_b11, nb11_b10, nb10_b11, upd_app, seval]; first | done | exact e0_b3))
            have e0_b7 := (hH b7).trans (by first | exact e0_b7 | (simp only [nb7_b3, nb3_b7, nb10_b3, nb3_b10, nb10_b7, nb7_b10, nb11_b3, nb3_b11, nb11_b7, nb7_b11, nb11_b10, nb10_b11, upd_app, seval]; first | done | exact e0_b7))
            have hown := OwnL.same (sz := 5) (v := v8) (rows := ((g.body.take k).map turnM).map Sm.row) (by repeat (first | exact hown | refine OwnL.off ?_ ho10 _ | refine OwnL.off ?_ ho11 _)) hH
            have f1 := g1; clear g1
            have f2 := g2; clear g2
            have f3 := g3; clear g3
            have f6 := g6; clear g6
            have f7 := g7; clear g7
            have f8 := g8; clear g8
            have f9 := g9; clear g9
            have f10 := g10; clear g10
            have f11 := g11; clear g11
            have hb3 := gb3; clear gb3
            have hb7 := gb7; clear gb7
            have hb10 := gb10; clear gb10
            have hb11 := gb11; clear gb11
            clear hfr hH
            refine awp_region rfl ?_
            simp only [f1, f2, f3, f6, f7, f8, f9, f10, f11, hb3, hb7, hb10, hb11, nb7_b3, nb3_b7, nb10_b3, nb3_b10, nb10_b7, nb7_b10, nb11_b3, nb3_b11, nb11_b7, nb7_b11, nb11_b10, nb10_b11, List.length_map, Nat.sub_zero, Nat.zero_add, List.length_take, q3, e1, e2, e3, z1, z2, hg, q1, q2, hgs, hea, List.map_cons, List.map_nil, har, RR, seval]
            refine awpB_sealed ?_
            simp only [f1, f2, f3, f6, f7, f8, f9, f10, f11, hb3, hb7, hb10, hb11, nb7_b3, nb3_b7, nb10_b3, nb3_b10, nb10_b7, nb7_b10, nb11_b3, nb3_b11, nb11_b7, nb7_b11, nb11_b10, nb10_b11, List.length_map, Nat.sub_zero, Nat.zero_add, List.length_take, q3, e1, e2, e3, z1, z2, hg, q1, q2, hgs, hea, List.map_cons, List.map_nil, har, RR, seval]
            refine awpA_ownF hown (by simp only [List.length_map, List.length_cons, List.length_nil]; omega) (fun b e => by first | trivial | (repeat' apply And.intro) <;> (intro c; subst c; first | exact ho7 _ _ e | exact ho10 _ _ e | exact hown.nb' hb3 (by decide) e | exact hown.nb' hb11 (by decide) e)) fun v12 M4 hown' hk' hg' => ?_
            have ho7' := hg' b7 ho7 (by rw [hb7]; exact Option.some_ne_none _)
            have ho10' := hg' b10 ho10 (by rw [hb10]; exact Option.some_ne_none _)
            simp only [f1, f2, f3, f6, f7, f8, f9, f10, f11, hb3, hb7, hb10, hb11, nb7_b3, nb3_b7, nb10_b3, nb3_b10, nb10_b7, nb7_b10, nb11_b3, nb3_b11, nb11_b7, nb7_b11, nb11_b10, nb10_b11, List.length_map, Nat.sub_zero, Nat.zero_add, List.length_take, q3, e1, e2, e3, z1, z2, hg, q1, q2, hgs, hea, List.map_cons, List.map_nil, har, RR, seval]
            have gb3 := hk' b3 _ hb3 (by first | exact (hown).nb' hb3 (by decide) | exact ho3 _ _ | assumption | (intro e; simp_all))
            have e0_b3 := (gb3.trans hb3.symm).trans e0_b3
            have hb3 := gb3; clear gb3
            have gb7 := hk' b7 _ hb7 (by first | exact (hown).nb' hb7 (by decide) | exact ho7 _ _ | assumption | (intro e; simp_all))
            have e0_b7 := (gb7.trans hb7.symm).trans e0_b7
            have hb7 := gb7; clear gb7
            have gb10 := hk' b10 _ hb10 (by first | exact (hown).nb' hb10 (by decide) | exact ho10 _ _ | assumption | (intro e; simp_all))
            have hb10 := gb10; clear gb10
            have gb11 := hk' b11 _ hb11 (by first | exact (hown).nb' hb11 (by decide) | exact ho11 _ _ | assumption | (intro e; simp_all))
            have hb11 := gb11; clear gb11
            have hce := hown'.cells; have hoe := hown'.one1
            try simp only [hce, hoe, Option.bind_some, List.drop, f1, f2, f3, f6, f7, f8, f9, f10, f11, hb3, hb7, hb10, hb11, nb7_b3, nb3_b7, nb10_b3, nb3_b10, nb10_b7, nb7_b10, nb11_b3, nb3_b11, nb11_b7, nb7_b11, nb11_b10, nb10_b11, List.length_map, Nat.sub_zero, Nat.zero_add, List.length_take, q3, e1, e2, e3, z1, z2, hg, q1, q2, hgs, hea, List.map_cons, List.map_nil, har, RR, seval]
            refine awp_region rfl ?_
            simp only [f1, f2, f3, f6, f7, f8, f9, f10, f11, hb3, hb7, hb10, hb11, nb7_b3, nb3_b7, nb10_b3, nb3_b10, nb10_b7, nb7_b10, nb11_b3, nb3_b11, nb11_b7, nb7_b11, nb11_b10, nb10_b11, List.length_map, Nat.sub_zero, Nat.zero_add, List.length_take, q3, e1, e2, e3, z1, z2, hg, q1, q2, hgs, hea, List.map_cons, List.map_nil, har, RR, seval]
            try rw [IntWalk.i64_in _ (by omega)]
            refine hK0 _ _ hlt0 ⟨by first | rfl | (simp only [upd_app, seval]; rfl), (by first | exact e0_b3 | (simp only [nb7_b3, nb3_b7, nb10_b3, nb3_b10, nb10_b7, nb7_b10, nb11_b3, nb3_b11, nb11_b7, nb7_b11, nb11_b10, nb10_b11, upd_app, seval]; first | done | exact e0_b3)), (by first | exact e0_b7 | (simp only [nb7_b3, nb3_b7, nb10_b3, nb3_b10, nb10_b7, nb7_b10, nb11_b3, nb3_b11, nb11_b7, nb7_b11, nb11_b10, nb10_b11, upd_app, seval]; first | done | exact e0_b7)), by rw [htk, List.map_append, List.map_append, List.map_singleton, List.map_singleton]; first | (rw [hrT]; exact hown') | (rw [hrF]; exact hown'), ho7'⟩ (by repeat (first | exact ag0 | refine agree.upd rfl ?_))
        · try (cases hc9; done)
          all_goals
            have hrF := hrF (of_decide_eq_false hc9)
            refine awp_skip ?_; try simp only [RR]
            refine awp_name fun F5 M5 hfr hH => ?_
            have g1 := hfr 1
            have g2 := hfr 2
            have g3 := hfr 3
            have g6 := hfr 6
            have g7 := hfr 7
            have g8 := hfr 8
            have g9 := hfr 9
            have g10 := hfr 10
            have gb3 := hH b3
            have gb7 := hH b7
            have gb10 := hH b10
            try simp only [f1, f2, f3, f6, f7, f9, f8, hb3, hb7, nb7_b3, nb3_b7, nb10_b3, nb3_b10, nb10_b7, nb7_b10, List.length_map, Nat.sub_zero, Nat.zero_add, List.length_take, q3, e1, e2, e3, z1, z2, hg, q1, q2, hgs, RR, seval] at g1 g2 g3 g6 g7 g8 g9 g10 gb3 gb7 gb10
            have ag0 : agree [1, 2, 3, 6, 7] F2 F5 := agree.same hfr (by repeat (first | exact ag0 | refine agree.upd rfl ?_))
            have e0_b3 := (hH b3).trans (by first | exact e0_b3 | (simp only [nb7_b3, nb3_b7, nb10_b3, nb3_b10, nb10_b7, nb7_b10, upd_app, seval]; first | done | exact e0_b3))
            have e0_b7 := (hH b7).trans (by first | exact e0_b7 | (simp only [nb7_b3, nb3_b7, nb10_b3, nb3_b10, nb10_b7, nb7_b10, upd_app, seval]; first | done | exact e0_b7))
            have hown := OwnL.same (sz := 5) (v := v8) (rows := ((g.body.take k).map turnM).map Sm.row) (by repeat (first | exact hown | refine OwnL.off ?_ ho10 _ | refine OwnL.off ?_ ho11 _)) hH
            have f1 := g1; clear g1
            have f2 := g2; clear g2
            have f3 := g3; clear g3
            have f6 := g6; clear g6
            have f7 := g7; clear g7
            have f8 := g8; clear g8
            have f9 := g9; clear g9
            have f10 := g10; clear g10
            have hb3 := gb3; clear gb3
            have hb7 := gb7; clear gb7
            have hb10 := gb10; clear gb10
            clear hfr hH
            refine awp_region rfl ?_
            simp only [f1, f2, f3, f6, f7, f8, f9, f10, hb3, hb7, hb10, nb7_b3, nb3_b7, nb10_b3, nb3_b10, nb10_b7, nb7_b10, List.length_map, Nat.sub_zero, Nat.zero_add, List.length_take, q3, e1, e2, e3, z1, z2, hg, q1, q2, hgs, RR, seval]
            refine awpB_sealed ?_
            simp only [f1, f2, f3, f6, f7, f8, f9, f10, hb3, hb7, hb10, nb7_b3, nb3_b7, nb10_b3, nb3_b10, nb10_b7, nb7_b10, List.length_map, Nat.sub_zero, Nat.zero_add, List.length_take, q3, e1, e2, e3, z1, z2, hg, q1, q2, hgs, RR, seval]
            refine awpA_ownF hown (by simp only [List.length_map, List.length_cons, List.length_nil]; omega) (fun b e => by first | trivial | (repeat' apply And.intro) <;> (intro c; subst c; first | exact ho7 _ _ e | exact ho10 _ _ e | exact hown.nb' hb3 (by decide) e)) fun v12 M6 hown' hk' hg' => ?_
            have ho7' := hg' b7 ho7 (by rw [hb7]; exact Option.some_ne_none _)
            have ho10' := hg' b10 ho10 (by rw [hb10]; exact Option.some_ne_none _)
            simp only [f1, f2, f3, f6, f7, f8, f9, f10, hb3, hb7, hb10, nb7_b3, nb3_b7, nb10_b3, nb3_b10, nb10_b7, nb7_b10, List.length_map, Nat.sub_zero, Nat.zero_add, List.length_take, q3, e1, e2, e3, z1, z2, hg, q1, q2, hgs, RR, seval]
            have gb3 := hk' b3 _ hb3 (by first | exact (hown).nb' hb3 (by decide) | exact ho3 _ _ | assumption | (intro e; simp_all))
            have e0_b3 := (gb3.trans hb3.symm).trans e0_b3
            have hb3 := gb3; clear gb3
            have gb7 := hk' b7 _ hb7 (by first | exact (hown).nb' hb7 (by decide) | exact ho7 _ _ | assumption | (intro e; simp_all))
            have e0_b7 := (gb7.trans hb7.symm).trans e0_b7
            have hb7 := gb7; clear gb7
            have gb10 := hk' b10 _ hb10 (by first | exact (hown).nb' hb10 (by decide) | exact ho10 _ _ | assumption | (intro e; simp_all))
            have hb10 := gb10; clear gb10
            have hce := hown'.cells; have hoe := hown'.one1
            try simp only [hce, hoe, Option.bind_some, List.drop, f1, f2, f3, f6, f7, f8, f9, f10, hb3, hb7, hb10, nb7_b3, nb3_b7, nb10_b3, nb3_b10, nb10_b7, nb7_b10, List.length_map, Nat.sub_zero, Nat.zero_add, List.length_take, q3, e1, e2, e3, z1, z2, hg, q1, q2, hgs, RR, seval]
            refine awp_region rfl ?_
            simp only [f1, f2, f3, f6, f7, f8, f9, f10, hb3, hb7, hb10, nb7_b3, nb3_b7, nb10_b3, nb3_b10, nb10_b7, nb7_b10, List.length_map, Nat.sub_zero, Nat.zero_add, List.length_take, q3, e1, e2, e3, z1, z2, hg, q1, q2, hgs, RR, seval]
            try rw [IntWalk.i64_in _ (by omega)]
            refine hK0 _ _ hlt0 ⟨by first | rfl | (simp only [upd_app, seval]; rfl), (by first | exact e0_b3 | (simp only [nb7_b3, nb3_b7, nb10_b3, nb3_b10, nb10_b7, nb7_b10, upd_app, seval]; first | done | exact e0_b3)), (by first | exact e0_b7 | (simp only [nb7_b3, nb3_b7, nb10_b3, nb3_b10, nb10_b7, nb7_b10, upd_app, seval]; first | done | exact e0_b7)), by rw [htk, List.map_append, List.map_append, List.map_singleton, List.map_singleton]; first | (rw [hrT]; exact hown') | (rw [hrF]; exact hown'), ho7'⟩ (by repeat (first | exact ag0 | refine agree.upd rfl ?_))
      · have hkn0 : k = g.body.length := by have := of_decide_eq_false hc; omega
        clear hc
        rw [hkn0, List.take_length] at hown
        refine awp_exit ?_; simp only [RR, seval]
        refine awp_name fun F7 M7 hfr hH => ?_
        have g1 := hfr 1
        have g2 := hfr 2
        have g3 := hfr 3
        have g6 := hfr 6
        have g7 := hfr 7
        have g8 := hfr 8
        have gb3 := hH b3
        have gb7 := hH b7
        try simp only [f1, f2, f3, f6, f7, f9, f8, hb3, hb7, nb7_b3, nb3_b7, List.length_map, Nat.sub_zero, Nat.zero_add, List.length_take, q3, e1, e2, e3, z1, z2, hg, q1, q2, RR, seval] at g1 g2 g3 g6 g7 g8 gb3 gb7
        have hown := hown.same hH
        have f1 := g1; clear g1
        have f2 := g2; clear g2
        have f3 := g3; clear g3
        have f6 := g6; clear g6
        have f7 := g7; clear g7
        have f8 := g8; clear g8
        have hb3 := gb3; clear gb3
        have hb7 := gb7; clear gb7
        clear hfr hH
        refine awp_seal2 (i := 8) (by rw [f8]; exact hown) fun F8 M8 hs hf' hk' => ?_
        have g1 := (hf' 1 (by decide) (by rw [f1]; first | exact apart_ptr _ _ _ _ _ | exact apart_int _ _ _ | exact apart_str _ _ | exact apart_isl _ _ _ | exact apart_bool _ _ | exact apart_bool' _ | exact apart_undef _ | exact apart_tup _ _ | exact apart_mp _ _ | assumption)).trans f1
        have g2 := (hf' 2 (by decide) (by rw [f2]; first | exact apart_ptr _ _ _ _ _ | exact apart_int _ _ _ | exact apart_str _ _ | exact apart_isl _ _ _ | exact apart_bool _ _ | exact apart_bool' _ | exact apart_undef _ | exact apart_tup _ _ | exact apart_mp _ _ | assumption)).trans f2
        have g3 := (hf' 3 (by decide) (by rw [f3]; first | exact apart_ptr _ _ _ _ _ | exact apart_int _ _ _ | exact apart_str _ _ | exact apart_isl _ _ _ | exact apart_bool _ _ | exact apart_bool' _ | exact apart_undef _ | exact apart_tup _ _ | exact apart_mp _ _ | assumption)).trans f3
        have g6 := (hf' 6 (by decide) (by rw [f6]; first | exact apart_ptr _ _ _ _ _ | exact apart_int _ _ _ | exact apart_str _ _ | exact apart_isl _ _ _ | exact apart_bool _ _ | exact apart_bool' _ | exact apart_undef _ | exact apart_tup _ _ | exact apart_mp _ _ | assumption)).trans f6
        have g7 := (hf' 7 (by decide) (by rw [f7]; first | exact apart_ptr _ _ _ _ _ | exact apart_int _ _ _ | exact apart_str _ _ | exact apart_isl _ _ _ | exact apart_bool _ _ | exact apart_bool' _ | exact apart_undef _ | exact apart_tup _ _ | exact apart_mp _ _ | assumption)).trans f7
        have g8 := hs
        have gb3 := hk' b3 _ hb3 (by rw [f8]; first | exact (hown).nb' hb3 (by decide) | exact ho3 _ _ | assumption | (intro e; simp_all))
        have hb3 := gb3; clear gb3
        have gb7 := hk' b7 _ hb7 (by rw [f8]; first | exact (hown).nb' hb7 (by decide) | exact ho7 _ _ | assumption | (intro e; simp_all))
        have hb7 := gb7; clear gb7
        have f1 := g1; clear g1
        have f2 := g2; clear g2
        have f3 := g3; clear g3
        have f6 := g6; clear g6
        have f7 := g7; clear g7
        have f8 := g8; clear g8
        clear hs hf' hk'
        refine awp_seq_k fun K hK => ?_
        refine awp_region rfl ?_
        simp only [f1, f2, f3, f6, f7, f8, hb3, hb7, nb7_b3, nb3_b7, List.length_map, Nat.sub_zero, Nat.zero_add, List.length_take, q3, e1, e2, e3, z1, z2, hg, q1, q2, RR, seval]
        refine hK _ _ ?_; clear hK K
        refine awp_seq_k fun K hK => ?_
        refine awp_cutP (fun fr M => ∃ b12 b81, fr 1 = .str inp ∧ fr 2 = .int .u8 (n : Int) ∧ fr 3 = .ptr 3 b3 0 0 ∧ fr 6 = .bool false ∧ fr 12 = .ptr 3 b12 0 0 ∧ M b3 = some (.rows 3 [[.isl 1 (p.vars.map strRow), .isl 2 (p.arrs.map Ar.row), .isl 5 (p.funs.map Fu.row)]]) ∧ M b12 = some (.rows 3 [[.isl 1 (p.vars.map strRow), .isl 2 (p.arrs.map Ar.row), .osl 5 b81 (m1 + 1)]]) ∧ M b81 = some (.rows 5 ((p.funs.map Fu.row).take m1 ++ [[.str g.name, .isl 1 (g.params.map strRow), .isl 1 (g.locs.map strRow), .bool g.word, .isl 5 ((g.body.map turnM).map Sm.row)]])) ∧ b12 ≠ b3 ∧ b81 ≠ b3 ∧ b81 ≠ b12) (fun KR14 hKR14 => ?_) ?_
        · refine awp_region_any (fun x => x ≠ b3 ∧ x ≠ b7) draws (by kernel_rfl) fun hd => ?_
          refine any_plan [(0, 3), (1, 0), (2, 3), (3, 0), (5, 3), (6, 0), (7, 3), (8, 0), (9, 3), (10, 3), (11, 3), (13, 0), (14, 2)] hd (m := 6) rfl (by kernel_rfl) rfl rfl ?_
          simp only [emitF, markOf, touch_mp, touch_imp, touch_nmp, ne_eq, not_true_eq_false, and_false, false_and, not_false_eq_true, f1, f2, f3, f6, f7, f8, hb3, hb7, nb7_b3, nb3_b7, List.length_map, Nat.sub_zero, Nat.zero_add, List.length_take, q3, e1, e2, e3, z1, z2, hg, q1, q2, RR, seval]
          refine any_branch hd (by kernel_rfl : Region.ready .any _ _ = [4, 17]) (by simp) ⟨?_, ?_, trivial⟩
          · simp only [emitF, markOf, touch_mp, touch_imp, touch_nmp, ne_eq, not_true_eq_false, and_false, false_and, not_false_eq_true, f1, f2, f3, f6, f7, f8, hb3, hb7, nb7_b3, nb3_b7, List.length_map, Nat.sub_zero, Nat.zero_add, List.length_take, q3, e1, e2, e3, z1, z2, hg, q1, q2, RR, seval]
            refine awpB_own fun b70 hn70 => ?_
            have nb70_b3 : b70 ≠ b3 := fun e => by rw [e] at hn70; simp only [f1, f2, f3, f6, f7, f8, hb3, hb7, nb7_b3, nb3_b7, List.length_map, Nat.sub_zero, Nat.zero_add, List.length_take, q3, e1, e2, e3, z1, z2, hg, q1, q2, RR, seval, reduceCtorEq] at hn70
            have nb3_b70 : b3 ≠ b70 := fun e => nb70_b3 e.symm
            have nb70_b7 : b70 ≠ b7 := fun e => by rw [e] at hn70; simp only [f1, f2, f3, f6, f7, f8, hb3, hb7, nb7_b3, nb3_b7, List.length_map, Nat.sub_zero, Nat.zero_add, List.length_take, q3, e1, e2, e3, z1, z2, hg, q1, q2, RR, seval, reduceCtorEq] at hn70
            have nb7_b70 : b7 ≠ b70 := fun e => nb70_b7 e.symm
            simp only [emitF, markOf, touch_mp, touch_imp, touch_nmp, ne_eq, not_true_eq_false, and_false, false_and, not_false_eq_true, f1, f2, f3, f6, f7, f8, hb3, hb7, nb7_b3, nb3_b7, nb70_b3, nb3_b70, nb70_b7, nb7_b70, List.length_map, Nat.sub_zero, Nat.zero_add, List.length_take, q3, e1, e2, e3, z1, z2, hg, q1, q2, RR, seval]
            refine any_branch hd (by kernel_rfl : Region.ready .any _ _ = [12, 17]) (by simp) ⟨?_, ?_, trivial⟩
            · simp only [emitF, markOf, touch_mp, touch_imp, touch_nmp, ne_eq, not_true_eq_false, and_false, false_and, not_false_eq_true, f1, f2, f3, f6, f7, f8, hb3, hb7, nb7_b3, nb3_b7, nb70_b3, nb3_b70, nb70_b7, nb7_b70, List.length_map, Nat.sub_zero, Nat.zero_add, List.length_take, q3, e1, e2, e3, z1, z2, hg, q1, q2, RR, seval]
              refine awpA_osl (b := b70) (by first | exact upd_same _ _ _ | (simp only [f1, f2, f3, f6, f7, f8, hb3, hb7, nb7_b3, nb3_b7, nb70_b3, nb3_b70, nb70_b7, nb7_b70, List.length_map, Nat.sub_zero, Nat.zero_add, List.length_take, q3, e1, e2, e3, z1, z2, hg, q1, q2, upd_app, RR, seval]; done) | (simp only [f1, f2, f3, f6, f7, f8, hb3, hb7, nb7_b3, nb3_b7, nb70_b3, nb3_b70, nb70_b7, nb7_b70, List.length_map, Nat.sub_zero, Nat.zero_add, List.length_take, q3, e1, e2, e3, z1, z2, hg, q1, q2, upd_app, RR, seval]; rfl)) (by first | rfl | (simp only [List.length_map, List.length_append, List.length_cons, List.length_nil, List.length_take, Nat.zero_add]; done) | (simp only [List.length_map, List.length_append, List.length_cons, List.length_nil, List.length_take, Nat.zero_add]; omega)) (by (try simp only [List.length_map, List.length_append, List.length_cons, List.length_nil, List.length_take]); omega) (by repeat (first | trivial | assumption | refine ⟨?_, ?_⟩)) fun b78 hn78 => ?_
              have nb78_b3 : b78 ≠ b3 := by rcases hn78 with e | e; rw [e]; exact nb70_b3; intro e2; rw [e2] at e; simp only [f1, f2, f3, f6, f7, f8, hb3, hb7, nb7_b3, nb3_b7, nb70_b3, nb3_b70, nb70_b7, nb7_b70, List.length_map, Nat.sub_zero, Nat.zero_add, List.length_take, q3, e1, e2, e3, z1, z2, hg, q1, q2, RR, seval, reduceCtorEq] at e
              have nb3_b78 : b3 ≠ b78 := fun e => nb78_b3 e.symm
              have nb78_b7 : b78 ≠ b7 := by rcases hn78 with e | e; rw [e]; exact nb70_b7; intro e2; rw [e2] at e; simp only [f1, f2, f3, f6, f7, f8, hb3, hb7, nb7_b3, nb3_b7, nb70_b3, nb3_b70, nb70_b7, nb7_b70, List.length_map, Nat.sub_zero, Nat.zero_add, List.length_take, q3, e1, e2, e3, z1, z2, hg, q1, q2, RR, seval, reduceCtorEq] at e
              have nb7_b78 : b7 ≠ b78 := fun e => nb78_b7 e.symm
              simp only [emitF, markOf, touch_mp, touch_imp, touch_nmp, ne_eq, not_true_eq_false, and_false, false_and, not_false_eq_true, f1, f2, f3, f6, f7, f8, hb3, hb7, nb7_b3, nb3_b7, nb70_b3, nb3_b70, nb70_b7, nb7_b70, nb78_b3, nb3_b78, nb78_b7, nb7_b78, List.length_map, Nat.sub_zero, Nat.zero_add, List.length_take, q3, e1, e2, e3, z1, z2, hg, q1, q2, RR, seval]
              refine any_branch hd (by kernel_rfl : Region.ready .any _ _ = [15, 17]) (by simp) ⟨?_, ?_, trivial⟩
              · simp only [emitF, markOf, touch_mp, touch_imp, touch_nmp, ne_eq, not_true_eq_false, and_false, false_and, not_false_eq_true, f1, f2, f3, f6, f7, f8, hb3, hb7, nb7_b3, nb3_b7, nb70_b3, nb3_b70, nb70_b7, nb7_b70, nb78_b3, nb3_b78, nb78_b7, nb7_b78, List.length_map, Nat.sub_zero, Nat.zero_add, List.length_take, q3, e1, e2, e3, z1, z2, hg, q1, q2, RR, seval]
                refine awpA_osl (b := b78) (by first | exact upd_same _ _ _ | (simp only [f1, f2, f3, f6, f7, f8, hb3, hb7, nb7_b3, nb3_b7, nb70_b3, nb3_b70, nb70_b7, nb7_b70, nb78_b3, nb3_b78, nb78_b7, nb7_b78, List.length_map, Nat.sub_zero, Nat.zero_add, List.length_take, q3, e1, e2, e3, z1, z2, hg, q1, q2, upd_app, RR, seval]; done) | (simp only [f1, f2, f3, f6, f7, f8, hb3, hb7, nb7_b3, nb3_b7, nb70_b3, nb3_b70, nb70_b7, nb7_b70, nb78_b3, nb3_b78, nb78_b7, nb7_b78, List.length_map, Nat.sub_zero, Nat.zero_add, List.length_take, q3, e1, e2, e3, z1, z2, hg, q1, q2, upd_app, RR, seval]; rfl)) (by first | rfl | (simp only [List.length_map, List.length_append, List.length_cons, List.length_nil, List.length_take, Nat.zero_add]; done) | (simp only [List.length_map, List.length_append, List.length_cons, List.length_nil, List.length_take, Nat.zero_add]; omega)) (by (try simp only [List.length_map, List.length_append, List.length_cons, List.length_nil, List.length_take]); omega) (by repeat (first | trivial | assumption | refine ⟨?_, ?_⟩)) fun b81 hn81 => ?_
                have nb81_b3 : b81 ≠ b3 := by rcases hn81 with e | e; rw [e]; exact nb78_b3; intro e2; rw [e2] at e; simp only [f1, f2, f3, f6, f7, f8, hb3, hb7, nb7_b3, nb3_b7, nb70_b3, nb3_b70, nb70_b7, nb7_b70, nb78_b3, nb3_b78, nb78_b7, nb7_b78, List.length_map, Nat.sub_zero, Nat.zero_add, List.length_take, q3, e1, e2, e3, z1, z2, hg, q1, q2, RR, seval, reduceCtorEq] at e
                have nb3_b81 : b3 ≠ b81 := fun e => nb81_b3 e.symm
                have nb81_b7 : b81 ≠ b7 := by rcases hn81 with e | e; rw [e]; exact nb78_b7; intro e2; rw [e2] at e; simp only [f1, f2, f3, f6, f7, f8, hb3, hb7, nb7_b3, nb3_b7, nb70_b3, nb3_b70, nb70_b7, nb7_b70, nb78_b3, nb3_b78, nb78_b7, nb7_b78, List.length_map, Nat.sub_zero, Nat.zero_add, List.length_take, q3, e1, e2, e3, z1, z2, hg, q1, q2, RR, seval, reduceCtorEq] at e
                have nb7_b81 : b7 ≠ b81 := fun e => nb81_b7 e.symm
                simp only [emitF, markOf, touch_mp, touch_imp, touch_nmp, ne_eq, not_true_eq_false, and_false, false_and, not_false_eq_true, f1, f2, f3, f6, f7, f8, hb3, hb7, nb7_b3, nb3_b7, nb70_b3, nb3_b70, nb70_b7, nb7_b70, nb78_b3, nb3_b78, nb78_b7, nb7_b78, nb81_b3, nb3_b81, nb81_b7, nb7_b81, List.length_map, Nat.sub_zero, Nat.zero_add, List.length_take, q3, e1, e2, e3, z1, z2, hg, q1, q2, RR, seval]
                refine any_plan [(16, 3), (17, 1), (18, 1)] hd (m := 0) rfl (by kernel_rfl) rfl rfl ?_
                simp only [emitF, markOf, touch_mp, touch_imp, touch_nmp, ne_eq, not_true_eq_false, and_false, false_and, not_false_eq_true, f1, f2, f3, f6, f7, f8, hb3, hb7, nb7_b3, nb3_b7, nb70_b3, nb3_b70, nb70_b7, nb7_b70, nb78_b3, nb3_b78, nb78_b7, nb7_b78, nb81_b3, nb3_b81, nb81_b7, nb7_b81, List.length_map, Nat.sub_zero, Nat.zero_add, List.length_take, q3, e1, e2, e3, z1, z2, hg, q1, q2, RR, seval]
                refine awpN_intro fun b12 hn12 => ?_
                have nb12_b3 : b12 ≠ b3 := fun e => by rw [e] at hn12; simp only [f1, f2, f3, f6, f7, f8, hb3, hb7, nb7_b3, nb3_b7, nb70_b3, nb3_b70, nb70_b7, nb7_b70, nb78_b3, nb3_b78, nb78_b7, nb7_b78, nb81_b3, nb3_b81, nb81_b7, nb7_b81, List.length_map, Nat.sub_zero, Nat.zero_add, List.length_take, q3, e1, e2, e3, z1, z2, hg, q1, q2, RR, seval, reduceCtorEq] at hn12
                have nb3_b12 : b3 ≠ b12 := fun e => nb12_b3 e.symm
                have nb12_b7 : b12 ≠ b7 := fun e => by rw [e] at hn12; simp only [f1, f2, f3, f6, f7, f8, hb3, hb7, nb7_b3, nb3_b7, nb70_b3, nb3_b70, nb70_b7, nb7_b70, nb78_b3, nb3_b78, nb78_b7, nb7_b78, nb81_b3, nb3_b81, nb81_b7, nb7_b81, List.length_map, Nat.sub_zero, Nat.zero_add, List.length_take, q3, e1, e2, e3, z1, z2, hg, q1, q2, RR, seval, reduceCtorEq] at hn12
                have nb7_b12 : b7 ≠ b12 := fun e => nb12_b7 e.symm
                have nb12_b81 : b12 ≠ b81 := fun e => by rw [e] at hn12; simp only [f1, f2, f3, f6, f7, f8, hb3, hb7, nb7_b3, nb3_b7, nb70_b3, nb3_b70, nb70_b7, nb7_b70, nb78_b3, nb3_b78, nb78_b7, nb7_b78, nb81_b3, nb3_b81, nb81_b7, nb7_b81, List.length_map, Nat.sub_zero, Nat.zero_add, List.length_take, q3, e1, e2, e3, z1, z2, hg, q1, q2, RR, seval, reduceCtorEq] at hn12
                have nb81_b12 : b81 ≠ b12 := fun e => nb12_b81 e.symm
                simp only [emitF, markOf, touch_mp, touch_imp, touch_nmp, ne_eq, not_true_eq_false, and_false, false_and, not_false_eq_true, f1, f2, f3, f6, f7, f8, hb3, hb7, nb7_b3, nb3_b7, nb70_b3, nb3_b70, nb70_b7, nb7_b70, nb78_b3, nb3_b78, nb78_b7, nb7_b78, nb81_b3, nb3_b81, nb81_b7, nb7_b81, nb12_b3, nb3_b12, nb12_b7, nb7_b12, nb12_b81, nb81_b12, List.length_map, Nat.sub_zero, Nat.zero_add, List.length_take, q3, e1, e2, e3, z1, z2, hg, q1, q2, RR, seval]
                refine any_done (by kernel_rfl) ?_
                simp only [f1, f2, f3, f6, f7, f8, hb3, hb7, nb7_b3, nb3_b7, nb70_b3, nb3_b70, nb70_b7, nb7_b70, nb78_b3, nb3_b78, nb78_b7, nb7_b78, nb81_b3, nb3_b81, nb81_b7, nb7_b81, nb12_b3, nb3_b12, nb12_b7, nb7_b12, nb12_b81, nb81_b12, List.length_map, Nat.sub_zero, Nat.zero_add, List.length_take, q3, e1, e2, e3, z1, z2, hg, q1, q2, RR, seval]
                exact hKR14 _ _ ⟨b12, b81, f1, f2, f3, f6, rfl, (by first | rfl | (simp only [f1, f2, f3, f6, f7, f8, hb3, hb7, nb7_b3, nb3_b7, nb70_b3, nb3_b70, nb70_b7, nb7_b70, nb78_b3, nb3_b78, nb78_b7, nb7_b78, nb81_b3, nb3_b81, nb81_b7, nb7_b81, nb12_b3, nb3_b12, nb12_b7, nb7_b12, nb12_b81, nb81_b12, List.length_map, Nat.sub_zero, Nat.zero_add, List.length_take, q3, e1, e2, e3, z1, z2, hg, q1, q2, upd_app, RR, seval]; done) | (simp only [f1, f2, f3, f6, f7, f8, hb3, hb7, nb7_b3, nb3_b7, nb70_b3, nb3_b70, nb70_b7, nb7_b70, nb78_b3, nb3_b78, nb78_b7, nb7_b78, nb81_b3, nb3_b81, nb81_b7, nb7_b81, nb12_b3, nb3_b12, nb12_b7, nb7_b12, nb12_b81, nb81_b12, List.length_map, Nat.sub_zero, Nat.zero_add, List.length_take, q3, e1, e2, e3, z1, z2, hg, q1, q2, upd_app, RR, seval]; first | rfl | exact hb3)), (by first | rfl | (simp only [f1, f2, f3, f6, f7, f8, hb3, hb7, nb7_b3, nb3_b7, nb70_b3, nb3_b70, nb70_b7, nb7_b70, nb78_b3, nb3_b78, nb78_b7, nb7_b78, nb81_b3, nb3_b81, nb81_b7, nb7_b81, nb12_b3, nb3_b12, nb12_b7, nb7_b12, nb12_b81, nb81_b12, List.length_map, Nat.sub_zero, Nat.zero_add, List.length_take, q3, e1, e2, e3, z1, z2, hg, q1, q2, upd_app, RR, seval]; done) | (simp only [f1, f2, f3, f6, f7, f8, hb3, hb7, nb7_b3, nb3_b7, nb70_b3, nb3_b70, nb70_b7, nb7_b70, nb78_b3, nb3_b78, nb78_b7, nb7_b78, nb81_b3, nb3_b81, nb81_b7, nb7_b81, nb12_b3, nb3_b12, nb12_b7, nb7_b12, nb12_b81, nb81_b12, List.length_map, Nat.sub_zero, Nat.zero_add, List.length_take, q3, e1, e2, e3, z1, z2, hg, q1, q2, upd_app, RR, seval]; rfl)), (by first | rfl | (simp only [f1, f2, f3, f6, f7, f8, hb3, hb7, nb7_b3, nb3_b7, nb70_b3, nb3_b70, nb70_b7, nb7_b70, nb78_b3, nb3_b78, nb78_b7, nb7_b78, nb81_b3, nb3_b81, nb81_b7, nb7_b81, nb12_b3, nb3_b12, nb12_b7, nb7_b12, nb12_b81, nb81_b12, List.length_map, Nat.sub_zero, Nat.zero_add, List.length_take, q3, e1, e2, e3, z1, z2, hg, q1, q2, upd_app, RR, seval]; done) | (simp only [f1, f2, f3, f6, f7, f8, hb3, hb7, nb7_b3, nb3_b7, nb70_b3, nb3_b70, nb70_b7, nb7_b70, nb78_b3, nb3_b78, nb78_b7, nb7_b78, nb81_b3, nb3_b81, nb81_b7, nb7_b81, nb12_b3, nb3_b12, nb12_b7, nb7_b12, nb12_b81, nb81_b12, List.length_map, Nat.sub_zero, Nat.zero_add, List.length_take, q3, e1, e2, e3, z1, z2, hg, q1, q2, upd_app, RR, seval]; rfl)), nb12_b3, nb81_b3, nb81_b12⟩
              · simp only [emitF, markOf, touch_mp, touch_imp, touch_nmp, ne_eq, not_true_eq_false, and_false, false_and, not_false_eq_true, f1, f2, f3, f6, f7, f8, hb3, hb7, nb7_b3, nb3_b7, nb70_b3, nb3_b70, nb70_b7, nb7_b70, nb78_b3, nb3_b78, nb78_b7, nb7_b78, List.length_map, Nat.sub_zero, Nat.zero_add, List.length_take, q3, e1, e2, e3, z1, z2, hg, q1, q2, RR, seval]
                refine awpN_intro fun b12 hn12 => ?_
                have nb12_b3 : b12 ≠ b3 := fun e => by rw [e] at hn12; simp only [f1, f2, f3, f6, f7, f8, hb3, hb7, nb7_b3, nb3_b7, nb70_b3, nb3_b70, nb70_b7, nb7_b70, nb78_b3, nb3_b78, nb78_b7, nb7_b78, List.length_map, Nat.sub_zero, Nat.zero_add, List.length_take, q3, e1, e2, e3, z1, z2, hg, q1, q2, RR, seval, reduceCtorEq] at hn12
                have nb3_b12 : b3 ≠ b12 := fun e => nb12_b3 e.symm
                have nb12_b7 : b12 ≠ b7 := fun e => by rw [e] at hn12; simp only [f1, f2, f3, f6, f7, f8, hb3, hb7, nb7_b3, nb3_b7, nb70_b3, nb3_b70, nb70_b7, nb7_b70, nb78_b3, nb3_b78, nb78_b7, nb7_b78, List.length_map, Nat.sub_zero, Nat.zero_add, List.length_take, q3, e1, e2, e3, z1, z2, hg, q1, q2, RR, seval, reduceCtorEq] at hn12
                have nb7_b12 : b7 ≠ b12 := fun e => nb12_b7 e.symm
                have nb12_b78 : b12 ≠ b78 := fun e => by rw [e] at hn12; simp only [f1, f2, f3, f6, f7, f8, hb3, hb7, nb7_b3, nb3_b7, nb70_b3, nb3_b70, nb70_b7, nb7_b70, nb78_b3, nb3_b78, nb78_b7, nb7_b78, List.length_map, Nat.sub_zero, Nat.zero_add, List.length_take, q3, e1, e2, e3, z1, z2, hg, q1, q2, RR, seval, reduceCtorEq] at hn12
                have nb78_b12 : b78 ≠ b12 := fun e => nb12_b78 e.symm
                simp only [emitF, markOf, touch_mp, touch_imp, touch_nmp, ne_eq, not_true_eq_false, and_false, false_and, not_false_eq_true, f1, f2, f3, f6, f7, f8, hb3, hb7, nb7_b3, nb3_b7, nb70_b3, nb3_b70, nb70_b7, nb7_b70, nb78_b3, nb3_b78, nb78_b7, nb7_b78, nb12_b3, nb3_b12, nb12_b7, nb7_b12, nb12_b78, nb78_b12, List.length_map, Nat.sub_zero, Nat.zero_add, List.length_take, q3, e1, e2, e3, z1, z2, hg, q1, q2, RR, seval]
                refine any_plan [(15, 1), (16, 3), (18, 1)] hd (m := 0) rfl (by kernel_rfl) rfl rfl ?_
                simp only [emitF, markOf, touch_mp, touch_imp, touch_nmp, ne_eq, not_true_eq_false, and_false, false_and, not_false_eq_true, f1, f2, f3, f6, f7, f8, hb3, hb7, nb7_b3, nb3_b7, nb70_b3, nb3_b70, nb70_b7, nb7_b70, nb78_b3, nb3_b78, nb78_b7, nb7_b78, nb12_b3, nb3_b12, nb12_b7, nb7_b12, nb12_b78, nb78_b12, List.length_map, Nat.sub_zero, Nat.zero_add, List.length_take, q3, e1, e2, e3, z1, z2, hg, q1, q2, RR, seval]
                refine awpA_osl (b := b78) (by first | exact upd_same _ _ _ | (simp only [f1, f2, f3, f6, f7, f8, hb3, hb7, nb7_b3, nb3_b7, nb70_b3, nb3_b70, nb70_b7, nb7_b70, nb78_b3, nb3_b78, nb78_b7, nb7_b78, nb12_b3, nb3_b12, nb12_b7, nb7_b12, nb12_b78, nb78_b12, List.length_map, Nat.sub_zero, Nat.zero_add, List.length_take, q3, e1, e2, e3, z1, z2, hg, q1, q2, upd_app, RR, seval]; done) | (simp only [f1, f2, f3, f6, f7, f8, hb3, hb7, nb7_b3, nb3_b7, nb70_b3, nb3_b70, nb70_b7, nb7_b70, nb78_b3, nb3_b78, nb78_b7, nb7_b78, nb12_b3, nb3_b12, nb12_b7, nb7_b12, nb12_b78, nb78_b12, List.length_map, Nat.sub_zero, Nat.zero_add, List.length_take, q3, e1, e2, e3, z1, z2, hg, q1, q2, upd_app, RR, seval]; rfl)) (by first | rfl | (simp only [List.length_map, List.length_append, List.length_cons, List.length_nil, List.length_take, Nat.zero_add]; done) | (simp only [List.length_map, List.length_append, List.length_cons, List.length_nil, List.length_take, Nat.zero_add]; omega)) (by (try simp only [List.length_map, List.length_append, List.length_cons, List.length_nil, List.length_take]); omega) (by repeat (first | trivial | assumption | refine ⟨?_, ?_⟩)) fun b81 hn81 => ?_
                have nb81_b3 : b81 ≠ b3 := by rcases hn81 with e | e; rw [e]; exact nb78_b3; intro e2; rw [e2] at e; simp only [f1, f2, f3, f6, f7, f8, hb3, hb7, nb7_b3, nb3_b7, nb70_b3, nb3_b70, nb70_b7, nb7_b70, nb78_b3, nb3_b78, nb78_b7, nb7_b78, nb12_b3, nb3_b12, nb12_b7, nb7_b12, nb12_b78, nb78_b12, List.length_map, Nat.sub_zero, Nat.zero_add, List.length_take, q3, e1, e2, e3, z1, z2, hg, q1, q2, RR, seval, reduceCtorEq] at e
                have nb3_b81 : b3 ≠ b81 := fun e => nb81_b3 e.symm
                have nb81_b7 : b81 ≠ b7 := by rcases hn81 with e | e; rw [e]; exact nb78_b7; intro e2; rw [e2] at e; simp only [f1, f2, f3, f6, f7, f8, hb3, hb7, nb7_b3, nb3_b7, nb70_b3, nb3_b70, nb70_b7, nb7_b70, nb78_b3, nb3_b78, nb78_b7, nb7_b78, nb12_b3, nb3_b12, nb12_b7, nb7_b12, nb12_b78, nb78_b12, List.length_map, Nat.sub_zero, Nat.zero_add, List.length_take, q3, e1, e2, e3, z1, z2, hg, q1, q2, RR, seval, reduceCtorEq] at e
                have nb7_b81 : b7 ≠ b81 := fun e => nb81_b7 e.symm
                have nb81_b12 : b81 ≠ b12 := by rcases hn81 with e | e; rw [e]; exact nb78_b12; intro e2; rw [e2] at e; simp only [f1, f2, f3, f6, f7, f8, hb3, hb7, nb7_b3, nb3_b7, nb70_b3, nb3_b70, nb70_b7, nb7_b70, nb78_b3, nb3_b78, nb78_b7, nb7_b78, nb12_b3, nb3_b12, nb12_b7, nb7_b12, nb12_b78, nb78_b12, List.length_map, Nat.sub_zero, Nat.zero_add, List.length_take, q3, e1, e2, e3, z1, z2, hg, q1, q2, RR, seval, reduceCtorEq] at e
                have nb12_b81 : b12 ≠ b81 := fun e => nb81_b12 e.symm
                simp only [emitF, markOf, touch_mp, touch_imp, touch_nmp, ne_eq, not_true_eq_false, and_false, false_and, not_false_eq_true, f1, f2, f3, f6, f7, f8, hb3, hb7, nb7_b3, nb3_b7, nb70_b3, nb3_b70, nb70_b7, nb7_b70, nb78_b3, nb3_b78, nb78_b7, nb7_b78, nb12_b3, nb3_b12, nb12_b7, nb7_b12, nb12_b78, nb78_b12, nb81_b3, nb3_b81, nb81_b7, nb7_b81, nb81_b12, nb12_b81, List.length_map, Nat.sub_zero, Nat.zero_add, List.length_take, q3, e1, e2, e3, z1, z2, hg, q1, q2, RR, seval]
                refine any_done (by kernel_rfl) ?_
                simp only [f1, f2, f3, f6, f7, f8, hb3, hb7, nb7_b3, nb3_b7, nb70_b3, nb3_b70, nb70_b7, nb7_b70, nb78_b3, nb3_b78, nb78_b7, nb7_b78, nb12_b3, nb3_b12, nb12_b7, nb7_b12, nb12_b78, nb78_b12, nb81_b3, nb3_b81, nb81_b7, nb7_b81, nb81_b12, nb12_b81, List.length_map, Nat.sub_zero, Nat.zero_add, List.length_take, q3, e1, e2, e3, z1, z2, hg, q1, q2, RR, seval]
                exact hKR14 _ _ ⟨b12, b81, f1, f2, f3, f6, rfl, (by first | rfl | (simp only [f1, f2, f3, f6, f7, f8, hb3, hb7, nb7_b3, nb3_b7, nb70_b3, nb3_b70, nb70_b7, nb7_b70, nb78_b3, nb3_b78, nb78_b7, nb7_b78, nb12_b3, nb3_b12, nb12_b7, nb7_b12, nb12_b78, nb78_b12, nb81_b3, nb3_b81, nb81_b7, nb7_b81, nb81_b12, nb12_b81, List.length_map, Nat.sub_zero, Nat.zero_add, List.length_take, q3, e1, e2, e3, z1, z2, hg, q1, q2, upd_app, RR, seval]; done) | (simp only [f1, f2, f3, f6, f7, f8, hb3, hb7, nb7_b3, nb3_b7, nb70_b3, nb3_b70, nb70_b7, nb7_b70, nb78_b3, nb3_b78, nb78_b7, nb7_b78, nb12_b3, nb3_b12, nb12_b7, nb7_b12, nb12_b78, nb78_b12, nb81_b3, nb3_b81, nb81_b7, nb7_b81, nb81_b12, nb12_b81, List.length_map, Nat.sub_zero, Nat.zero_add, List.length_take, q3, e1, e2, e3, z1, z2, hg, q1, q2, upd_app, RR, seval]; first | rfl | exact hb3)), (by first | rfl | (simp only [f1, f2, f3, f6, f7, f8, hb3, hb7, nb7_b3, nb3_b7, nb70_b3, nb3_b70, nb70_b7, nb7_b70, nb78_b3, nb3_b78, nb78_b7, nb7_b78, nb12_b3, nb3_b12, nb12_b7, nb7_b12, nb12_b78, nb78_b12, nb81_b3, nb3_b81, nb81_b7, nb7_b81, nb81_b12, nb12_b81, List.length_map, Nat.sub_zero, Nat.zero_add, List.length_take, q3, e1, e2, e3, z1, z2, hg, q1, q2, upd_app, RR, seval]; done) | (simp only [f1, f2, f3, f6, f7, f8, hb3, hb7, nb7_b3, nb3_b7, nb70_b3, nb3_b70, nb70_b7, nb7_b70, nb78_b3, nb3_b78, nb78_b7, nb7_b78, nb12_b3, nb3_b12, nb12_b7, nb7_b12, nb12_b78, nb78_b12, nb81_b3, nb3_b81, nb81_b7, nb7_b81, nb81_b12, nb12_b81, List.length_map, Nat.sub_zero, Nat.zero_add, List.length_take, q3, e1, e2, e3, z1, z2, hg, q1, q2, upd_app, RR, seval]; rfl)), (by first | rfl | (simp only [f1, f2, f3, f6, f7, f8, hb3, hb7, nb7_b3, nb3_b7, nb70_b3, nb3_b70, nb70_b7, nb7_b70, nb78_b3, nb3_b78, nb78_b7, nb7_b78, nb12_b3, nb3_b12, nb12_b7, nb7_b12, nb12_b78, nb78_b12, nb81_b3, nb3_b81, nb81_b7, nb7_b81, nb81_b12, nb12_b81, List.length_map, Nat.sub_zero, Nat.zero_add, List.length_take, q3, e1, e2, e3, z1, z2, hg, q1, q2, upd_app, RR, seval]; done) | (simp only [f1, f2, f3, f6, f7, f8, hb3, hb7, nb7_b3, nb3_b7, nb70_b3, nb3_b70, nb70_b7, nb7_b70, nb78_b3, nb3_b78, nb78_b7, nb7_b78, nb12_b3, nb3_b12, nb12_b7, nb7_b12, nb12_b78, nb78_b12, nb81_b3, nb3_b81, nb81_b7, nb7_b81, nb81_b12, nb12_b81, List.length_map, Nat.sub_zero, Nat.zero_add, List.length_take, q3, e1, e2, e3, z1, z2, hg, q1, q2, upd_app, RR, seval]; rfl)), nb12_b3, nb81_b3, nb81_b12⟩
            · simp only [emitF, markOf, touch_mp, touch_imp, touch_nmp, ne_eq, not_true_eq_false, and_false, false_and, not_false_eq_true, f1, f2, f3, f6, f7, f8, hb3, hb7, nb7_b3, nb3_b7, nb70_b3, nb3_b70, nb70_b7, nb7_b70, List.length_map, Nat.sub_zero, Nat.zero_add, List.length_take, q3, e1, e2, e3, z1, z2, hg, q1, q2, RR, seval]
              refine awpN_intro fun b12 hn12 => ?_
              have nb12_b3 : b12 ≠ b3 := fun e => by rw [e] at hn12; simp only [f1, f2, f3, f6, f7, f8, hb3, hb7, nb7_b3, nb3_b7, nb70_b3, nb3_b70, nb70_b7, nb7_b70, List.length_map, Nat.sub_zero, Nat.zero_add, List.length_take, q3, e1, e2, e3, z1, z2, hg, q1, q2, RR, seval, reduceCtorEq] at hn12
              have nb3_b12 : b3 ≠ b12 := fun e => nb12_b3 e.symm
              have nb12_b7 : b12 ≠ b7 := fun e => by rw [e] at hn12; simp only [f1, f2, f3, f6, f7, f8, hb3, hb7, nb7_b3, nb3_b7, nb70_b3, nb3_b70, nb70_b7, nb7_b70, List.length_map, Nat.sub_zero, Nat.zero_add, List.length_take, q3, e1, e2, e3, z1, z2, hg, q1, q2, RR, seval, reduceCtorEq] at hn12
              have nb7_b12 : b7 ≠ b12 := fun e => nb12_b7 e.symm
              have nb12_b70 : b12 ≠ b70 := fun e => by rw [e] at hn12; simp only [f1, f2, f3, f6, f7, f8, hb3, hb7, nb7_b3, nb3_b7, nb70_b3, nb3_b70, nb70_b7, nb7_b70, List.length_map, Nat.sub_zero, Nat.zero_add, List.length_take, q3, e1, e2, e3, z1, z2, hg, q1, q2, RR, seval, reduceCtorEq] at hn12
              have nb70_b12 : b70 ≠ b12 := fun e => nb12_b70 e.symm
              simp only [emitF, markOf, touch_mp, touch_imp, touch_nmp, ne_eq, not_true_eq_false, and_false, false_and, not_false_eq_true, f1, f2, f3, f6, f7, f8, hb3, hb7, nb7_b3, nb3_b7, nb70_b3, nb3_b70, nb70_b7, nb7_b70, nb12_b3, nb3_b12, nb12_b7, nb7_b12, nb12_b70, nb70_b12, List.length_map, Nat.sub_zero, Nat.zero_add, List.length_take, q3, e1, e2, e3, z1, z2, hg, q1, q2, RR, seval]
              refine any_plan [(12, 1), (15, 1), (16, 3), (18, 1)] hd (m := 0) rfl (by kernel_rfl) rfl rfl ?_
              simp only [emitF, markOf, touch_mp, touch_imp, touch_nmp, ne_eq, not_true_eq_false, and_false, false_and, not_false_eq_true, f1, f2, f3, f6, f7, f8, hb3, hb7, nb7_b3, nb3_b7, nb70_b3, nb3_b70, nb70_b7, nb7_b70, nb12_b3, nb3_b12, nb12_b7, nb7_b12, nb12_b70, nb70_b12, List.length_map, Nat.sub_zero, Nat.zero_add, List.length_take, q3, e1, e2, e3, z1, z2, hg, q1, q2, RR, seval]
              refine awpA_osl (b := b70) (by first | exact upd_same _ _ _ | (simp only [f1, f2, f3, f6, f7, f8, hb3, hb7, nb7_b3, nb3_b7, nb70_b3, nb3_b70, nb70_b7, nb7_b70, nb12_b3, nb3_b12, nb12_b7, nb7_b12, nb12_b70, nb70_b12, List.length_map, Nat.sub_zero, Nat.zero_add, List.length_take, q3, e1, e2, e3, z1, z2, hg, q1, q2, upd_app, RR, seval]; done) | (simp only [f1, f2, f3, f6, f7, f8, hb3, hb7, nb7_b3, nb3_b7, nb70_b3, nb3_b70, nb70_b7, nb7_b70, nb12_b3, nb3_b12, nb12_b7, nb7_b12, nb12_b70, nb70_b12, List.length_map, Nat.sub_zero, Nat.zero_add, List.length_take, q3, e1, e2, e3, z1, z2, hg, q1, q2, upd_app, RR, seval]; rfl)) (by first | rfl | (simp only [List.length_map, List.length_append, List.length_cons, List.length_nil, List.length_take, Nat.zero_add]; done) | (simp only [List.length_map, List.length_append, List.length_cons, List.length_nil, List.length_take, Nat.zero_add]; omega)) (by (try simp only [List.length_map, List.length_append, List.length_cons, List.length_nil, List.length_take]); omega) (by repeat (first | trivial | assumption | refine ⟨?_, ?_⟩)) fun b78 hn78 => ?_
              have nb78_b3 : b78 ≠ b3 := by rcases hn78 with e | e; rw [e]; exact nb70_b3; intro e2; rw [e2] at e; simp only [f1, f2, f3, f6, f7, f8, hb3, hb7, nb7_b3, nb3_b7, nb70_b3, nb3_b70, nb70_b7, nb7_b70, nb12_b3, nb3_b12, nb12_b7, nb7_b12, nb12_b70, nb70_b12, List.length_map, Nat.sub_zero, Nat.zero_add, List.length_take, q3, e1, e2, e3, z1, z2, hg, q1, q2, RR, seval, reduceCtorEq] at e
              have nb3_b78 : b3 ≠ b78 := fun e => nb78_b3 e.symm
              have nb78_b7 : b78 ≠ b7 := by rcases hn78 with e | e; rw [e]; exact nb70_b7; intro e2; rw [e2] at e; simp only [f1, f2, f3, f6, f7, f8, hb3, hb7, nb7_b3, nb3_b7, nb70_b3, nb3_b70, nb70_b7, nb7_b70, nb12_b3, nb3_b12, nb12_b7, nb7_b12, nb12_b70, nb70_b12, List.length_map, Nat.sub_zero, Nat.zero_add, List.length_take, q3, e1, e2, e3, z1, z2, hg, q1, q2, RR, seval, reduceCtorEq] at e
              have nb7_b78 : b7 ≠ b78 := fun e => nb78_b7 e.symm
              have nb78_b12 : b78 ≠ b12 := by rcases hn78 with e | e; rw [e]; exact nb70_b12; intro e2; rw [e2] at e; simp only [f1, f2, f3, f6, f7, f8, hb3, hb7, nb7_b3, nb3_b7, nb70_b3, nb3_b70, nb70_b7, nb7_b70, nb12_b3, nb3_b12, nb12_b7, nb7_b12, nb12_b70, nb70_b12, List.length_map, Nat.sub_zero, Nat.zero_add, List.length_take, q3, e1, e2, e3, z1, z2, hg, q1, q2, RR, seval, reduceCtorEq] at e
              have nb12_b78 : b12 ≠ b78 := fun e => nb78_b12 e.symm
              simp only [emitF, markOf, touch_mp, touch_imp, touch_nmp, ne_eq, not_true_eq_false, and_false, false_and, not_false_eq_true, f1, f2, f3, f6, f7, f8, hb3, hb7, nb7_b3, nb3_b7, nb70_b3, nb3_b70, nb70_b7, nb7_b70, nb12_b3, nb3_b12, nb12_b7, nb7_b12, nb12_b70, nb70_b12, nb78_b3, nb3_b78, nb78_b7, nb7_b78, nb78_b12, nb12_b78, List.length_map, Nat.sub_zero, Nat.zero_add, List.length_take, q3, e1, e2, e3, z1, z2, hg, q1, q2, RR, seval]
              refine awpA_osl (b := b78) (by first | exact upd_same _ _ _ | (simp only [f1, f2, f3, f6, f7, f8, hb3, hb7, nb7_b3, nb3_b7, nb70_b3, nb3_b70, nb70_b7, nb7_b70, nb12_b3, nb3_b12, nb12_b7, nb7_b12, nb12_b70, nb70_b12, nb78_b3, nb3_b78, nb78_b7, nb7_b78, nb78_b12, nb12_b78, List.length_map, Nat.sub_zero, Nat.zero_add, List.length_take, q3, e1, e2, e3, z1, z2, hg, q1, q2, upd_app, RR, seval]; done) | (simp only [f1, f2, f3, f6, f7, f8, hb3, hb7, nb7_b3, nb3_b7, nb70_b3, nb3_b70, nb70_b7, nb7_b70, nb12_b3, nb3_b12, nb12_b7, nb7_b12, nb12_b70, nb70_b12, nb78_b3, nb3_b78, nb78_b7, nb7_b78, nb78_b12, nb12_b78, List.length_map, Nat.sub_zero, Nat.zero_add, List.length_take, q3, e1, e2, e3, z1, z2, hg, q1, q2, upd_app, RR, seval]; rfl)) (by first | rfl | (simp only [List.length_map, List.length_append, List.length_cons, List.length_nil, List.length_take, Nat.zero_add]; done) | (simp only [List.length_map, List.length_append, List.length_cons, List.length_nil, List.length_take, Nat.zero_add]; omega)) (by (try simp only [List.length_map, List.length_append, List.length_cons, List.length_nil, List.length_take]); omega) (by repeat (first | trivial | assumption | refine ⟨?_, ?_⟩)) fun b81 hn81 => ?_
              have nb81_b3 : b81 ≠ b3 := by rcases hn81 with e | e; rw [e]; exact nb78_b3; intro e2; rw [e2] at e; simp only [f1, f2, f3, f6, f7, f8, hb3, hb7, nb7_b3, nb3_b7, nb70_b3, nb3_b70, nb70_b7, nb7_b70, nb12_b3, nb3_b12, nb12_b7, nb7_b12, nb12_b70, nb70_b12, nb78_b3, nb3_b78, nb78_b7, nb7_b78, nb78_b12, nb12_b78, List.length_map, Nat.sub_zero, Nat.zero_add, List.length_take, q3, e1, e2, e3, z1, z2, hg, q1, q2, RR, seval, reduceCtorEq] at e
              have nb3_b81 : b3 ≠ b81 := fun e => nb81_b3 e.symm
              have nb81_b7 : b81 ≠ b7 := by rcases hn81 with e | e; rw [e]; exact nb78_b7; intro e2; rw [e2] at e; simp only [f1, f2, f3, f6, f7, f8, hb3, hb7, nb7_b3, nb3_b7, nb70_b3, nb3_b70, nb70_b7, nb7_b70, nb12_b3, nb3_b12, nb12_b7, nb7_b12, nb12_b70, nb70_b12, nb78_b3, nb3_b78, nb78_b7, nb7_b78, nb78_b12, nb12_b78, List.length_map, Nat.sub_zero, Nat.zero_add, List.length_take, q3, e1, e2, e3, z1, z2, hg, q1, q2, RR, seval, reduceCtorEq] at e
              have nb7_b81 : b7 ≠ b81 := fun e => nb81_b7 e.symm
              have nb81_b12 : b81 ≠ b12 := by rcases hn81 with e | e; rw [e]; exact nb78_b12; intro e2; rw [e2] at e; simp only [f1, f2, f3, f6, f7, f8, hb3, hb7, nb7_b3, nb3_b7, nb70_b3, nb3_b70, nb70_b7, nb7_b70, nb12_b3, nb3_b12, nb12_b7, nb7_b12, nb12_b70, nb70_b12, nb78_b3, nb3_b78, nb78_b7, nb7_b78, nb78_b12, nb12_b78, List.length_map, Nat.sub_zero, Nat.zero_add, List.length_take, q3, e1, e2, e3, z1, z2, hg, q1, q2, RR, seval, reduceCtorEq] at e
              have nb12_b81 : b12 ≠ b81 := fun e => nb81_b12 e.symm
              simp only [emitF, markOf, touch_mp, touch_imp, touch_nmp, ne_eq, not_true_eq_false, and_false, false_and, not_false_eq_true, f1, f2, f3, f6, f7, f8, hb3, hb7, nb7_b3, nb3_b7, nb70_b3, nb3_b70, nb70_b7, nb7_b70, nb12_b3, nb3_b12, nb12_b7, nb7_b12, nb12_b70, nb70_b12, nb78_b3, nb3_b78, nb78_b7, nb7_b78, nb78_b12, nb12_b78, nb81_b3, nb3_b81, nb81_b7, nb7_b81, nb81_b12, nb12_b81, List.length_map, Nat.sub_zero, Nat.zero_add, List.length_take, q3, e1, e2, e3, z1, z2, hg, q1, q2, RR, seval]
              refine any_done (by kernel_rfl) ?_
              simp only [f1, f2, f3, f6, f7, f8, hb3, hb7, nb7_b3, nb3_b7, nb70_b3, nb3_b70, nb70_b7, nb7_b70, nb12_b3, nb3_b12, nb12_b7, nb7_b12, nb12_b70, nb70_b12, nb78_b3, nb3_b78, nb78_b7, nb7_b78, nb78_b12, nb12_b78, nb81_b3, nb3_b81, nb81_b7, nb7_b81, nb81_b12, nb12_b81, List.length_map, Nat.sub_zero, Nat.zero_add, List.length_take, q3, e1, e2, e3, z1, z2, hg, q1, q2, RR, seval]
              exact hKR14 _ _ ⟨b12, b81, f1, f2, f3, f6, rfl, (by first | rfl | (simp only [f1, f2, f3, f6, f7, f8, hb3, hb7, nb7_b3, nb3_b7, nb70_b3, nb3_b70, nb70_b7, nb7_b70, nb12_b3, nb3_b12, nb12_b7, nb7_b12, nb12_b70, nb70_b12, nb78_b3, nb3_b78, nb78_b7, nb7_b78, nb78_b12, nb12_b78, nb81_b3, nb3_b81, nb81_b7, nb7_b81, nb81_b12, nb12_b81, List.length_map, Nat.sub_zero, Nat.zero_add, List.length_take, q3, e1, e2, e3, z1, z2, hg, q1, q2, upd_app, RR, seval]; done) | (simp only [f1, f2, f3, f6, f7, f8, hb3, hb7, nb7_b3, nb3_b7, nb70_b3, nb3_b70, nb70_b7, nb7_b70, nb12_b3, nb3_b12, nb12_b7, nb7_b12, nb12_b70, nb70_b12, nb78_b3, nb3_b78, nb78_b7, nb7_b78, nb78_b12, nb12_b78, nb81_b3, nb3_b81, nb81_b7, nb7_b81, nb81_b12, nb12_b81, List.length_map, Nat.sub_zero, Nat.zero_add, List.length_take, q3, e1, e2, e3, z1, z2, hg, q1, q2, upd_app, RR, seval]; first | rfl | exact hb3)), (by first | rfl | (simp only [f1, f2, f3, f6, f7, f8, hb3, hb7, nb7_b3, nb3_b7, nb70_b3, nb3_b70, nb70_b7, nb7_b70, nb12_b3, nb3_b12, nb12_b7, nb7_b12, nb12_b70, nb70_b12, nb78_b3, nb3_b78, nb78_b7, nb7_b78, nb78_b12, nb12_b78, nb81_b3, nb3_b81, nb81_b7, nb7_b81, nb81_b12, nb12_b81, List.length_map, Nat.sub_zero, Nat.zero_add, List.length_take, q3, e1, e2, e3, z1, z2, hg, q1, q2, upd_app, RR, seval]; done) | (simp only [f1, f2, f3, f6, f7, f8, hb3, hb7, nb7_b3, nb3_b7, nb70_b3, nb3_b70, nb70_b7, nb7_b70, nb12_b3, nb3_b12, nb12_b7, nb7_b12, nb12_b70, nb70_b12, nb78_b3, nb3_b78, nb78_b7, nb7_b78, nb78_b12, nb12_b78, nb81_b3, nb3_b81, nb81_b7, nb7_b81, nb81_b12, nb12_b81, List.length_map, Nat.sub_zero, Nat.zero_add, List.length_take, q3, e1, e2, e3, z1, z2, hg, q1, q2, upd_app, RR, seval]; rfl)), (by first | rfl | (simp only [f1, f2, f3, f6, f7, f8, hb3, hb7, nb7_b3, nb3_b7, nb70_b3, nb3_b70, nb70_b7, nb7_b70, nb12_b3, nb3_b12, nb12_b7, nb7_b12, nb12_b70, nb70_b12, nb78_b3, nb3_b78, nb78_b7, nb7_b78, nb78_b12, nb12_b78, nb81_b3, nb3_b81, nb81_b7, nb7_b81, nb81_b12, nb12_b81, List.length_map, Nat.sub_zero, Nat.zero_add, List.length_take, q3, e1, e2, e3, z1, z2, hg, q1, q2, upd_app, RR, seval]; done) | (simp only [f1, f2, f3, f6, f7, f8, hb3, hb7, nb7_b3, nb3_b7, nb70_b3, nb3_b70, nb70_b7, nb7_b70, nb12_b3, nb3_b12, nb12_b7, nb7_b12, nb12_b70, nb70_b12, nb78_b3, nb3_b78, nb78_b7, nb7_b78, nb78_b12, nb12_b78, nb81_b3, nb3_b81, nb81_b7, nb7_b81, nb81_b12, nb12_b81, List.length_map, Nat.sub_zero, Nat.zero_add, List.length_take, q3, e1, e2, e3, z1, z2, hg, q1, q2, upd_app, RR, seval]; rfl)), nb12_b3, nb81_b3, nb81_b12⟩
          · simp only [emitF, markOf, touch_mp, touch_imp, touch_nmp, ne_eq, not_true_eq_false, and_false, false_and, not_false_eq_true, f1, f2, f3, f6, f7, f8, hb3, hb7, nb7_b3, nb3_b7, List.length_map, Nat.sub_zero, Nat.zero_add, List.length_take, q3, e1, e2, e3, z1, z2, hg, q1, q2, RR, seval]
            refine awpN_intro fun b12 hn12 => ?_
            have nb12_b3 : b12 ≠ b3 := fun e => by rw [e] at hn12; simp only [f1, f2, f3, f6, f7, f8, hb3, hb7, nb7_b3, nb3_b7, List.length_map, Nat.sub_zero, Nat.zero_add, List.length_take, q3, e1, e2, e3, z1, z2, hg, q1, q2, RR, seval, reduceCtorEq] at hn12
            have nb3_b12 : b3 ≠ b12 := fun e => nb12_b3 e.symm
            have nb12_b7 : b12 ≠ b7 := fun e => by rw [e] at hn12; simp only [f1, f2, f3, f6, f7, f8, hb3, hb7, nb7_b3, nb3_b7, List.length_map, Nat.sub_zero, Nat.zero_add, List.length_take, q3, e1, e2, e3, z1, z2, hg, q1, q2, RR, seval, reduceCtorEq] at hn12
            have nb7_b12 : b7 ≠ b12 := fun e => nb12_b7 e.symm
            simp only [emitF, markOf, touch_mp, touch_imp, touch_nmp, ne_eq, not_true_eq_false, and_false, false_and, not_false_eq_true, f1, f2, f3, f6, f7, f8, hb3, hb7, nb7_b3, nb3_b7, nb12_b3, nb3_b12, nb12_b7, nb7_b12, List.length_map, Nat.sub_zero, Nat.zero_add, List.length_take, q3, e1, e2, e3, z1, z2, hg, q1, q2, RR, seval]
            refine any_plan [(4, 1), (12, 1), (15, 1), (16, 3), (18, 1)] hd (m := 0) rfl (by kernel_rfl) rfl rfl ?_
            simp only [emitF, markOf, touch_mp, touch_imp, touch_nmp, ne_eq, not_true_eq_false, and_false, false_and, not_false_eq_true, f1, f2, f3, f6, f7, f8, hb3, hb7, nb7_b3, nb3_b7, nb12_b3, nb3_b12, nb12_b7, nb7_b12, List.length_map, Nat.sub_zero, Nat.zero_add, List.length_take, q3, e1, e2, e3, z1, z2, hg, q1, q2, RR, seval]
            refine awpB_own fun b70 hn70 => ?_
            have nb70_b3 : b70 ≠ b3 := fun e => by rw [e] at hn70; simp only [f1, f2, f3, f6, f7, f8, hb3, hb7, nb7_b3, nb3_b7, nb12_b3, nb3_b12, nb12_b7, nb7_b12, List.length_map, Nat.sub_zero, Nat.zero_add, List.length_take, q3, e1, e2, e3, z1, z2, hg, q1, q2, RR, seval, reduceCtorEq] at hn70
            have nb3_b70 : b3 ≠ b70 := fun e => nb70_b3 e.symm
            have nb70_b7 : b70 ≠ b7 := fun e => by rw [e] at hn70; simp only [f1, f2, f3, f6, f7, f8, hb3, hb7, nb7_b3, nb3_b7, nb12_b3, nb3_b12, nb12_b7, nb7_b12, List.length_map, Nat.sub_zero, Nat.zero_add, List.length_take, q3, e1, e2, e3, z1, z2, hg, q1, q2, RR, seval, reduceCtorEq] at hn70
            have nb7_b70 : b7 ≠ b70 := fun e => nb70_b7 e.symm
            have nb70_b12 : b70 ≠ b12 := fun e => by rw [e] at hn70; simp only [f1, f2, f3, f6, f7, f8, hb3, hb7, nb7_b3, nb3_b7, nb12_b3, nb3_b12, nb12_b7, nb7_b12, List.length_map, Nat.sub_zero, Nat.zero_add, List.length_take, q3, e1, e2, e3, z1, z2, hg, q1, q2, RR, seval, reduceCtorEq] at hn70
            have nb12_b70 : b12 ≠ b70 := fun e => nb70_b12 e.symm
            simp only [emitF, markOf, touch_mp, touch_imp, touch_nmp, ne_eq, not_true_eq_false, and_false, false_and, not_false_eq_true, f1, f2, f3, f6, f7, f8, hb3, hb7, nb7_b3, nb3_b7, nb12_b3, nb3_b12, nb12_b7, nb7_b12, nb70_b3, nb3_b70, nb70_b7, nb7_b70, nb70_b12, nb12_b70, List.length_map, Nat.sub_zero, Nat.zero_add, List.length_take, q3, e1, e2, e3, z1, z2, hg, q1, q2, RR, seval]
            refine awpA_osl (b := b70) (by first | exact upd_same _ _ _ | (simp only [f1, f2, f3, f6, f7, f8, hb3, hb7, nb7_b3, nb3_b7, nb12_b3, nb3_b12, nb12_b7, nb7_b12, nb70_b3, nb3_b70, nb70_b7, nb7_b70, nb70_b12, nb12_b70, List.length_map, Nat.sub_zero, Nat.zero_add, List.length_take, q3, e1, e2, e3, z1, z2, hg, q1, q2, upd_app, RR, seval]; done) | (simp only [f1, f2, f3, f6, f7, f8, hb3, hb7, nb7_b3, nb3_b7, nb12_b3, nb3_b12, nb12_b7, nb7_b12, nb70_b3, nb3_b70, nb70_b7, nb7_b70, nb70_b12, nb12_b70, List.length_map, Nat.sub_zero, Nat.zero_add, List.length_take, q3, e1, e2, e3, z1, z2, hg, q1, q2, upd_app, RR, seval]; rfl)) (by first | rfl | (simp only [List.length_map, List.length_append, List.length_cons, List.length_nil, List.length_take, Nat.zero_add]; done) | (simp only [List.length_map, List.length_append, List.length_cons, List.length_nil, List.length_take, Nat.zero_add]; omega)) (by (try simp only [List.length_map, List.length_append, List.length_cons, List.length_nil, List.length_take]); omega) (by repeat (first | trivial | assumption | refine ⟨?_, ?_⟩)) fun b78 hn78 => ?_
            have nb78_b3 : b78 ≠ b3 := by rcases hn78 with e | e; rw [e]; exact nb70_b3; intro e2; rw [e2] at e; simp only [f1, f2, f3, f6, f7, f8, hb3, hb7, nb7_b3, nb3_b7, nb12_b3, nb3_b12, nb12_b7, nb7_b12, nb70_b3, nb3_b70, nb70_b7, nb7_b70, nb70_b12, nb12_b70, List.length_map, Nat.sub_zero, Nat.zero_add, List.length_take, q3, e1, e2, e3, z1, z2, hg, q1, q2, RR, seval, reduceCtorEq] at e
            have nb3_b78 : b3 ≠ b78 := fun e => nb78_b3 e.symm
            have nb78_b7 : b78 ≠ b7 := by rcases hn78 with e | e; rw [e]; exact nb70_b7; intro e2; rw [e2] at e; simp only [f1, f2, f3, f6, f7, f8, hb3, hb7, nb7_b3, nb3_b7, nb12_b3, nb3_b12, nb12_b7, nb7_b12, nb70_b3, nb3_b70, nb70_b7, nb7_b70, nb70_b12, nb12_b70, List.length_map, Nat.sub_zero, Nat.zero_add, List.length_take, q3, e1, e2, e3, z1, z2, hg, q1, q2, RR, seval, reduceCtorEq] at e
            have nb7_b78 : b7 ≠ b78 := fun e => nb78_b7 e.symm
            have nb78_b12 : b78 ≠ b12 := by rcases hn78 with e | e; rw [e]; exact nb70_b12; intro e2; rw [e2] at e; simp only [f1, f2, f3, f6, f7, f8, hb3, hb7, nb7_b3, nb3_b7, nb12_b3, nb3_b12, nb12_b7, nb7_b12, nb70_b3, nb3_b70, nb70_b7, nb7_b70, nb70_b12, nb12_b70, List.length_map, Nat.sub_zero, Nat.zero_add, List.length_take, q3, e1, e2, e3, z1, z2, hg, q1, q2, RR, seval, reduceCtorEq] at e
            have nb12_b78 : b12 ≠ b78 := fun e => nb78_b12 e.symm
            simp only [emitF, markOf, touch_mp, touch_imp, touch_nmp, ne_eq, not_true_eq_false, and_false, false_and, not_false_eq_true, f1, f2, f3, f6, f7, f8, hb3, hb7, nb7_b3, nb3_b7, nb12_b3, nb3_b12, nb12_b7, nb7_b12, nb70_b3, nb3_b70, nb70_b7, nb7_b70, nb70_b12, nb12_b70, nb78_b3, nb3_b78, nb78_b7, nb7_b78, nb78_b12, nb12_b78, List.length_map, Nat.sub_zero, Nat.zero_add, List.length_take, q3, e1, e2, e3, z1, z2, hg, q1, q2, RR, seval]
            refine awpA_osl (b := b78) (by first | exact upd_same _ _ _ | (simp only [f1, f2, f3, f6, f7, f8, hb3, hb7, nb7_b3, nb3_b7, nb12_b3, nb3_b12, nb12_b7, nb7_b12, nb70_b3, nb3_b70, nb70_b7, nb7_b70, nb70_b12, nb12_b70, nb78_b3, nb3_b78, nb78_b7, nb7_b78, nb78_b12, nb12_b78, List.length_map, Nat.sub_zero, Nat.zero_add, List.length_take, q3, e1, e2, e3, z1, z2, hg, q1, q2, upd_app, RR, seval]; done) | (simp only [f1, f2, f3, f6, f7, f8, hb3, hb7, nb7_b3, nb3_b7, nb12_b3, nb3_b12, nb12_b7, nb7_b12, nb70_b3, nb3_b70, nb70_b7, nb7_b70, nb70_b12, nb12_b70, nb78_b3, nb3_b78, nb78_b7, nb7_b78, nb78_b12, nb12_b78, List.length_map, Nat.sub_zero, Nat.zero_add, List.length_take, q3, e1, e2, e3, z1, z2, hg, q1, q2, upd_app, RR, seval]; rfl)) (by first | rfl | (simp only [List.length_map, List.length_append, List.length_cons, List.length_nil, List.length_take, Nat.zero_add]; done) | (simp only [List.length_map, List.length_append, List.length_cons, List.length_nil, List.length_take, Nat.zero_add]; omega)) (by (try simp only [List.length_map, List.length_append, List.length_cons, List.length_nil, List.length_take]); omega) (by repeat (first | trivial | assumption | refine ⟨?_, ?_⟩)) fun b81 hn81 => ?_
            have nb81_b3 : b81 ≠ b3 := by rcases hn81 with e | e; rw [e]; exact nb78_b3; intro e2; rw [e2] at e; simp only [f1, f2, f3, f6, f7, f8, hb3, hb7, nb7_b3, nb3_b7, nb12_b3, nb3_b12, nb12_b7, nb7_b12, nb70_b3, nb3_b70, nb70_b7, nb7_b70, nb70_b12, nb12_b70, nb78_b3, nb3_b78, nb78_b7, nb7_b78, nb78_b12, nb12_b78, List.length_map, Nat.sub_zero, Nat.zero_add, List.length_take, q3, e1, e2, e3, z1, z2, hg, q1, q2, RR, seval, reduceCtorEq] at e
            have nb3_b81 : b3 ≠ b81 := fun e => nb81_b3 e.symm
            have nb81_b7 : b81 ≠ b7 := by rcases hn81 with e | e; rw [e]; exact nb78_b7; intro e2; rw [e2] at e; simp only [f1, f2, f3, f6, f7, f8, hb3, hb7, nb7_b3, nb3_b7, nb12_b3, nb3_b12, nb12_b7, nb7_b12, nb70_b3, nb3_b70, nb70_b7, nb7_b70, nb70_b12, nb12_b70, nb78_b3, nb3_b78, nb78_b7, nb7_b78, nb78_b12, nb12_b78, List.length_map, Nat.sub_zero, Nat.zero_add, List.length_take, q3, e1, e2, e3, z1, z2, hg, q1, q2, RR, seval, reduceCtorEq] at e
            have nb7_b81 : b7 ≠ b81 := fun e => nb81_b7 e.symm
            have nb81_b12 : b81 ≠ b12 := by rcases hn81 with e | e; rw [e]; exact nb78_b12; intro e2; rw [e2] at e; simp only [f1, f2, f3, f6, f7, f8, hb3, hb7, nb7_b3, nb3_b7, nb12_b3, nb3_b12, nb12_b7, nb7_b12, nb70_b3, nb3_b70, nb70_b7, nb7_b70, nb70_b12, nb12_b70, nb78_b3, nb3_b78, nb78_b7, nb7_b78, nb78_b12, nb12_b78, List.length_map, Nat.sub_zero, Nat.zero_add, List.length_take, q3, e1, e2, e3, z1, z2, hg, q1, q2, RR, seval, reduceCtorEq] at e
            have nb12_b81 : b12 ≠ b81 := fun e => nb81_b12 e.symm
            simp only [emitF, markOf, touch_mp, touch_imp, touch_nmp, ne_eq, not_true_eq_false, and_false, false_and, not_false_eq_true, f1, f2, f3, f6, f7, f8, hb3, hb7, nb7_b3, nb3_b7, nb12_b3, nb3_b12, nb12_b7, nb7_b12, nb70_b3, nb3_b70, nb70_b7, nb7_b70, nb70_b12, nb12_b70, nb78_b3, nb3_b78, nb78_b7, nb7_b78, nb78_b12, nb12_b78, nb81_b3, nb3_b81, nb81_b7, nb7_b81, nb81_b12, nb12_b81, List.length_map, Nat.sub_zero, Nat.zero_add, List.length_take, q3, e1, e2, e3, z1, z2, hg, q1, q2, RR, seval]
            refine any_done (by kernel_rfl) ?_
            simp only [f1, f2, f3, f6, f7, f8, hb3, hb7, nb7_b3, nb3_b7, nb12_b3, nb3_b12, nb12_b7, nb7_b12, nb70_b3, nb3_b70, nb70_b7, nb7_b70, nb70_b12, nb12_b70, nb78_b3, nb3_b78, nb78_b7, nb7_b78, nb78_b12, nb12_b78, nb81_b3, nb3_b81, nb81_b7, nb7_b81, nb81_b12, nb12_b81, List.length_map, Nat.sub_zero, Nat.zero_add, List.length_take, q3, e1, e2, e3, z1, z2, hg, q1, q2, RR, seval]
            exact hKR14 _ _ ⟨b12, b81, f1, f2, f3, f6, rfl, (by first | rfl | (simp only [f1, f2, f3, f6, f7, f8, hb3, hb7, nb7_b3, nb3_b7, nb12_b3, nb3_b12, nb12_b7, nb7_b12, nb70_b3, nb3_b70, nb70_b7, nb7_b70, nb70_b12, nb12_b70, nb78_b3, nb3_b78, nb78_b7, nb7_b78, nb78_b12, nb12_b78, nb81_b3, nb3_b81, nb81_b7, nb7_b81, nb81_b12, nb12_b81, List.length_map, Nat.sub_zero, Nat.zero_add, List.length_take, q3, e1, e2, e3, z1, z2, hg, q1, q2, upd_app, RR, seval]; done) | (simp only [f1, f2, f3, f6, f7, f8, hb3, hb7, nb7_b3, nb3_b7, nb12_b3, nb3_b12, nb12_b7, nb7_b12, nb70_b3, nb3_b70, nb70_b7, nb7_b70, nb70_b12, nb12_b70, nb78_b3, nb3_b78, nb78_b7, nb7_b78, nb78_b12, nb12_b78, nb81_b3, nb3_b81, nb81_b7, nb7_b81, nb81_b12, nb12_b81, List.length_map, Nat.sub_zero, Nat.zero_add, List.length_take, q3, e1, e2, e3, z1, z2, hg, q1, q2, upd_app, RR, seval]; first | rfl | exact hb3)), (by first | rfl | (simp only [f1, f2, f3, f6, f7, f8, hb3, hb7, nb7_b3, nb3_b7, nb12_b3, nb3_b12, nb12_b7, nb7_b12, nb70_b3, nb3_b70, nb70_b7, nb7_b70, nb70_b12, nb12_b70, nb78_b3, nb3_b78, nb78_b7, nb7_b78, nb78_b12, nb12_b78, nb81_b3, nb3_b81, nb81_b7, nb7_b81, nb81_b12, nb12_b81, List.length_map, Nat.sub_zero, Nat.zero_add, List.length_take, q3, e1, e2, e3, z1, z2, hg, q1, q2, upd_app, RR, seval]; done) | (simp only [f1, f2, f3, f6, f7, f8, hb3, hb7, nb7_b3, nb3_b7, nb12_b3, nb3_b12, nb12_b7, nb7_b12, nb70_b3, nb3_b70, nb70_b7, nb7_b70, nb70_b12, nb12_b70, nb78_b3, nb3_b78, nb78_b7, nb7_b78, nb78_b12, nb12_b78, nb81_b3, nb3_b81, nb81_b7, nb7_b81, nb81_b12, nb12_b81, List.length_map, Nat.sub_zero, Nat.zero_add, List.length_take, q3, e1, e2, e3, z1, z2, hg, q1, q2, upd_app, RR, seval]; rfl)), (by first | rfl | (simp only [f1, f2, f3, f6, f7, f8, hb3, hb7, nb7_b3, nb3_b7, nb12_b3, nb3_b12, nb12_b7, nb7_b12, nb70_b3, nb3_b70, nb70_b7, nb7_b70, nb70_b12, nb12_b70, nb78_b3, nb3_b78, nb78_b7, nb7_b78, nb78_b12, nb12_b78, nb81_b3, nb3_b81, nb81_b7, nb7_b81, nb81_b12, nb12_b81, List.length_map, Nat.sub_zero, Nat.zero_add, List.length_take, q3, e1, e2, e3, z1, z2, hg, q1, q2, upd_app, RR, seval]; done) | (simp only [f1, f2, f3, f6, f7, f8, hb3, hb7, nb7_b3, nb3_b7, nb12_b3, nb3_b12, nb12_b7, nb7_b12, nb70_b3, nb3_b70, nb70_b7, nb7_b70, nb70_b12, nb12_b70, nb78_b3, nb3_b78, nb78_b7, nb7_b78, nb78_b12, nb12_b78, nb81_b3, nb3_b81, nb81_b7, nb7_b81, nb81_b12, nb12_b81, List.length_map, Nat.sub_zero, Nat.zero_add, List.length_take, q3, e1, e2, e3, z1, z2, hg, q1, q2, upd_app, RR, seval]; rfl)), nb12_b3, nb81_b3, nb81_b12⟩
        rintro F9 M9 ⟨b12, b81, f1, f2, f3, f6, f12, hb3, hb12, hb81, nb12_b3, nb81_b3, nb81_b12⟩
        simp only [thenQ_normal]
        refine hK _ _ ?_; clear hK K
        have nb3_b12 : b3 ≠ b12 := fun e => nb12_b3 e.symm
        have nb3_b81 : b3 ≠ b81 := fun e => nb81_b3 e.symm
        have nb12_b81 : b12 ≠ b81 := fun e => nb81_b12 e.symm
        refine awp_seq ?_
        refine awp_name fun F10 M10 hfr hH => ?_
        have g1 := hfr 1
        have g2 := hfr 2
        have g3 := hfr 3
        have g6 := hfr 6
        have g12 := hfr 12
        have gb3 := hH b3
        have gb12 := hH b12
        have gb81 := hH b81
        try simp only [f1, f2, f3, f6, f12, hb3, hb12, hb81, nb7_b3, nb3_b7, nb12_b3, nb3_b12, nb81_b3, nb3_b81, nb81_b12, nb12_b81, List.length_map, Nat.sub_zero, Nat.zero_add, List.length_take, q3, e1, e2, e3, z1, z2, hg, q1, q2, RR, seval] at g1 g2 g3 g6 g12 gb3 gb12 gb81
        have f1 := g1; clear g1
        have f2 := g2; clear g2
        have f3 := g3; clear g3
        have f6 := g6; clear g6
        have f12 := g12; clear g12
        have hb3 := gb3; clear gb3
        have hb12 := gb12; clear gb12
        have hb81 := gb81; clear gb81
        clear hfr hH
        refine awp_freezeAll hb81 ?_
        refine awp_name fun F11 M11 hfr hH => ?_
        have g1 := hfr 1
        have g2 := hfr 2
        have g3 := hfr 3
        have g6 := hfr 6
        have g12 := hfr 12
        have gb3 := hH b3
        have gb12 := hH b12
        try simp only [frzO_rows, List.map_cons, List.map_nil, Option.map_some, frz_osl, frz_isl, frz_int, frz_str, frz_bool, frz_ptr, frz_nsl, frz_self, and_self, List.length_map, List.length_set, List.length_append, List.length_cons, List.length_nil, q4, f1, f2, f3, f6, f12, hb3, hb12, nb7_b3, nb3_b7, nb12_b3, nb3_b12, nb81_b3, nb3_b81, nb81_b12, nb12_b81, List.length_map, Nat.sub_zero, Nat.zero_add, List.length_take, q3, e1, e2, e3, z1, z2, hg, q1, q2, RR, seval] at g1 g2 g3 g6 g12 gb3 gb12
        have f1 := g1; clear g1
        have f2 := g2; clear g2
        have f3 := g3; clear g3
        have f6 := g6; clear g6
        have f12 := g12; clear g12
        have hb3 := gb3; clear gb3
        have hb12 := gb12; clear gb12
        clear hfr hH
        refine awp_seq_k fun K hK => ?_
        refine awp_region rfl ?_
        simp only [f1, f2, f3, f6, f12, hb3, hb12, nb7_b3, nb3_b7, nb12_b3, nb3_b12, nb81_b3, nb3_b81, nb81_b12, nb12_b81, List.length_map, Nat.sub_zero, Nat.zero_add, List.length_take, q3, e1, e2, e3, z1, z2, hg, q1, q2, RR, seval]
        refine awpC_pure' (hq) ?_
        simp only [f1, f2, f3, f6, f12, hb3, hb12, nb7_b3, nb3_b7, nb12_b3, nb3_b12, nb81_b3, nb3_b81, nb81_b12, nb12_b81, List.length_map, Nat.sub_zero, Nat.zero_add, List.length_take, q3, e1, e2, e3, z1, z2, hg, q1, q2, RR, seval]
        refine hK _ _ ?_; clear hK K
        refine awp_if _ rfl (fun hc15 => ?_) (fun hc15 => ?_)
        · try (cases hc15; done)
          all_goals
            refine awp_seq_k fun K hK => ?_
            refine awp_region rfl ?_
            simp only [f1, f2, f3, f6, f12, hb3, hb12, nb7_b3, nb3_b7, nb12_b3, nb3_b12, nb81_b3, nb3_b81, nb81_b12, nb12_b81, List.length_map, Nat.sub_zero, Nat.zero_add, List.length_take, q3, e1, e2, e3, z1, z2, hg, q1, q2, RR, seval]
            refine awpC_pure' (awake_con) ?_
            simp only [f1, f2, f3, f6, f12, hb3, hb12, nb7_b3, nb3_b7, nb12_b3, nb3_b12, nb81_b3, nb3_b81, nb81_b12, nb12_b81, List.length_map, Nat.sub_zero, Nat.zero_add, List.length_take, q3, e1, e2, e3, z1, z2, hg, q1, q2, RR, seval]
            refine hK _ _ ?_; clear hK K
            refine awp_ret ?_; simp only [bodyQ, aresult, ares, f1, f2, f3, f6, f12, hb3, hb12, nb7_b3, nb3_b7, nb12_b3, nb3_b12, nb81_b3, nb3_b81, nb81_b12, nb12_b81, List.length_map, Nat.sub_zero, Nat.zero_add, List.length_take, q3, e1, e2, e3, z1, z2, hg, q1, q2, RR, seval]
            refine Gives.pure ?_
            rfl
        · try (cases hc15; done)
          all_goals
            have c2 := c2 (by simpa using hc15)
            refine awp_skip ?_; try simp only [RR]
            refine awp_seq_k fun K hK => ?_
            refine awp_region_draw2 (fun x => x ≠ b3 ∧ x ≠ b12) [(0, 1), (1, 3), (2, 1), (3, 3), (4, 3), (5, 3), (7, 0), (8, 3), (9, 3), (10, 3), (6, 1), (11, 1), (12, 3), (13, 3), (14, 3)] [] draws (by kernel_rfl) rfl rfl ?_
            simp only [emitF, markOf, touch_mp, touch_imp, touch_nmp, ne_eq, not_true_eq_false, and_false, false_and, not_false_eq_true, f1, f2, f3, f6, f12, hb3, hb12, nb7_b3, nb3_b7, nb12_b3, nb3_b12, nb81_b3, nb3_b81, nb81_b12, nb12_b81, List.length_map, Nat.sub_zero, Nat.zero_add, List.length_take, q3, e1, e2, e3, z1, z2, hg, q1, q2, acells, Option.map_some, decide_true, Bool.and_self, Bool.and_true, RR, seval]
            all_goals try (refine awpC_pure' (awake_con) ?_; simp only [emitF, markOf, touch_mp, touch_imp, touch_nmp, ne_eq, not_true_eq_false, and_false, false_and, not_false_eq_true, f1, f2, f3, f6, f12, hb3, hb12, nb7_b3, nb3_b7, nb12_b3, nb3_b12, nb81_b3, nb3_b81, nb81_b12, nb12_b81, List.length_map, Nat.sub_zero, Nat.zero_add, List.length_take, q3, e1, e2, e3, z1, z2, hg, q1, q2, acells, Option.map_some, decide_true, Bool.and_self, Bool.and_true, RR, seval])
            all_goals try ((first | refine awpG_splitN (fun h => ?_) (fun h => ?_) | refine awpG_split (fun h => ?_) (fun h => ?_)) <;> simp only [h, emitF, markOf, touch_mp, touch_imp, touch_nmp, ne_eq, not_true_eq_false, and_false, false_and, not_false_eq_true, f1, f2, f3, f6, f12, hb3, hb12, nb7_b3, nb3_b7, nb12_b3, nb3_b12, nb81_b3, nb3_b81, nb81_b12, nb12_b81, List.length_map, Nat.sub_zero, Nat.zero_add, List.length_take, q3, e1, e2, e3, z1, z2, hg, q1, q2, acells, Option.map_some, decide_true, Bool.and_self, Bool.and_true, RR, seval])
            all_goals try (refine awpC_pure' (c1) ?_; simp only [emitF, markOf, touch_mp, touch_imp, touch_nmp, ne_eq, not_true_eq_false, and_false, false_and, not_false_eq_true, f1, f2, f3, f6, f12, hb3, hb12, nb7_b3, nb3_b7, nb12_b3, nb3_b12, nb81_b3, nb3_b81, nb81_b12, nb12_b81, List.length_map, Nat.sub_zero, Nat.zero_add, List.length_take, q3, e1, e2, e3, z1, z2, hg, q1, q2, acells, Option.map_some, decide_true, Bool.and_self, Bool.and_true, RR, seval])
            all_goals try (refine awpC_pure' (c2) ?_; simp only [emitF, markOf, touch_mp, touch_imp, touch_nmp, ne_eq, not_true_eq_false, and_false, false_and, not_false_eq_true, f1, f2, f3, f6, f12, hb3, hb12, nb7_b3, nb3_b7, nb12_b3, nb3_b12, nb81_b3, nb3_b81, nb81_b12, nb12_b81, List.length_map, Nat.sub_zero, Nat.zero_add, List.length_take, q3, e1, e2, e3, z1, z2, hg, q1, q2, acells, Option.map_some, decide_true, Bool.and_self, Bool.and_true, RR, seval])
            all_goals
              refine hK _ _ ?_; clear hK K
              refine awp_ret ?_; simp only [bodyQ, aresult, ares, f1, f2, f3, f6, f12, hb3, hb12, nb7_b3, nb3_b7, nb12_b3, nb3_b12, nb81_b3, nb3_b81, nb81_b12, nb12_b81, List.length_map, Nat.sub_zero, Nat.zero_add, List.length_take, q3, e1, e2, e3, z1, z2, hg, q1, q2, acells, Option.map_some, decide_true, Bool.and_self, Bool.and_true, RR, seval]
              refine Gives.pure ?_
              rfl
end Go.Proofs.Ytlokndnkpleegaa
