/- Chapter 17: the contract of TypingNames. -/
import Derived.Test.YtefjogkgeelbdaaDoorLk
import Derived.Test.YtefjogkgeelbdaaDoorAl4
import Derived.Test.YtefjogkgeelbdaaDoorSf
set_option linter.unusedSimpArgs false
set_option linter.unusedVariables false
set_option maxRecDepth 10000
namespace Go.Al
mutual
def rnX (z : Str) : Ex → Ex
  | .mk k o n s l => .mk k o n (if (decide (k = 2) || decide (k = 3)) = true then z else s) (rnE z l)
def rnE (z : Str) : List Ex → List Ex
  | [] => []
  | e :: l => rnX z e :: rnE z l
end
theorem rnE_map (z : Str) : ∀ l : List Ex, rnE z l = l.map (rnX z)
  | [] => by simp only [rnE, List.map_nil]
  | e :: l => by simp only [rnE, List.map_cons, rnE_map z l]
theorem rnX_row (z : Str) (e : Ex) : (rnX z e).row = [.int .i64 e.kind, .int .i64 e.op, .int .u32 e.num, .str (if (decide (e.kind = 2) || decide (e.kind = 3)) = true then z else e.name), .isl 5 ((e.kids.map (rnX z)).map Ex.row)] := by
  cases e; simp only [rnX, Ex.row_eq, Ex.kind, Ex.op, Ex.num, Ex.name, Ex.kids, rnE_map] <;> rfl
mutual
theorem rnX_ty (W : Str → Bool) (z : Str) : ∀ e : Ex, tyE W (rnX z e) = tyE W e
  | .mk k o n s l => by
    have h1 := rnE_ty W z l
    by_cases hk : k = 4
    · subst hk
      simp [rnX, tyE, h1]
    · simp only [rnX, tyE, h1, if_neg hk]
theorem rnE_ty (W : Str → Bool) (z : Str) : ∀ (l : List Ex) (t : Int), allT W (rnE z l) t = allT W l t
  | [], _ => by simp only [rnE]
  | e :: l, t => by simp only [rnE, allT_cons, rnX_ty W z e, rnE_ty W z l t]
end
mutual
theorem rnX_kn (K : Str → Bool) (z : Str) : ∀ e : Ex, knE K (rnX z e) = knE K e
  | .mk k o n s l => by
    have h1 := rnE_kn K z l
    by_cases hk : k = 4
    · subst hk
      simp [rnX, knE, h1]
    · simp [rnX, knE, h1, hk]
theorem rnE_kn (K : Str → Bool) (z : Str) : ∀ l : List Ex, knL K (rnE z l) = knL K l
  | [] => by simp only [rnE]
  | e :: l => by simp only [rnE, knL_cons, rnX_kn K z e, rnE_kn K z l]
end
theorem rnX_exprT (p : Pg) (z : Str) (e : Ex) : exprT p (rnX z e) = exprT p e := by simp only [exprT, rnX_ty, rnX_kn]
theorem rnX_ok {z : Str} (hz : fitL z) {e : Ex} (h : e.ok) : (rnX z e).ok := by
  induction h with
  | mk k o n s l hk ho hn hs hl _ ih =>
    simp only [rnX, rnE_map]
    refine .mk _ _ _ _ _ hk ho hn ?_ (by simpa only [fitL, List.length_map] using hl) fun x hx => ?_
    · split <;> assumption
    · obtain ⟨y, hy, rfl⟩ := List.mem_map.1 hx
      exact ih y hy
theorem len_szE' : ∀ l : List Ex, l.length ≤ szE l
  | [] => by simp [szE]
  | e :: l => by have := len_szE' l; have := e.sz_eq; simp only [List.length_cons, szE]; omega
end Go.Al
namespace Go.Proofs.YtefjogkgeelbdaaDoor
open Go.Al
theorem renamed_con (z : Str) (n : Nat) : ∀ e : Ex, e.sz ≤ n → n ≤ 1000000 → PCon env 23 [.agg e.row, .str z] (.agg (rnX z e).row) := by
  induction n using Nat.strongRecOn with
  | _ n ih =>
    intro e hn hb
    have hll := len_szE' e.kids
    have hz := e.sz_eq
    have hr := rnX_row z e
    rw [hr, e.row_eq]
    generalize hnm : (if (decide (e.kind = 2) || decide (e.kind = 3)) = true then z else e.name) = nm
    clear hr
    refine con_of 37 [.cell 4 30] Tryd.func23 rfl rfl rfl rfl ?_
    refine awp_seq_k fun K hK => ?_
    refine awp_region rfl ?_
    simp only [List.length_map, RR, seval]
    refine awpN_intro fun b2 hn2 => ?_
    simp only [List.length_map, RR, seval]
    refine awpN_intro fun b4 hn4 => ?_
    have nb4_b2 : b4 ≠ b2 := fun e => by rw [e] at hn4; simp only [List.length_map, RR, seval, reduceCtorEq] at hn4
    have nb2_b4 : b2 ≠ b4 := fun e => nb4_b2 e.symm
    simp only [nb4_b2, nb2_b4, List.length_map, RR, seval]
    refine hK _ _ ?_; clear hK K
    refine awp_seq ?_
    refine awp_seq_k fun K hK => ?_
    refine awp_region rfl ?_
    simp only [nb4_b2, nb2_b4, List.length_map, RR, seval]
    repeat' ((first | refine awpG_splitN (fun h => ?_) (fun h => ?_) | refine awpG_split (fun h => ?_) (fun h => ?_)) <;> simp only [h, nb4_b2, nb2_b4, List.length_map, RR, seval])
    all_goals
      refine hK _ _ ?_; clear hK K
      refine awp_name fun F1 M1 hfr hH => ?_
      have g1 := hfr 1
      have g2 := hfr 2
      have g4 := hfr 4
      have g14 := hfr 14
      have gb2 := hH b2
      have gb4 := hH b4
      try simp only [nb4_b2, nb2_b4, List.length_map, RR, seval] at g1 g2 g4 g14 gb2 gb4
      have f1 := g1; clear g1
      have f2 := g2; clear g2
      have f4 := g4; clear g4
      have f14 := g14; clear g14
      have hb2 := gb2; clear gb2
      have hb4 := gb4; clear gb4
      clear hfr hH
      refine awp_cutP (fun fr M => agree [1, 2, 4] F1 fr ∧ M b4 = M1 b4 ∧ M b2 = some (.rows 5 [[.int .i64 e.kind, .int .i64 e.op, .int .u32 e.num, .str nm, .isl 5 (e.kids.map Ex.row)]])) (fun KC1 hKC1 => ?_) ?_
      · have agC1 := agree.refl [1, 2, 4] F1
        have eC1_b4 : M1 b4 = M1 b4 := rfl
        refine awp_if _ (by first | rfl | exact f14) (fun hc1 => ?_) (fun hc1 => ?_)
        · try (cases hc1; done)
          all_goals
            refine awp_region rfl ?_
            simp only [f1, f2, f4, f14, hb2, hb4, nb4_b2, nb2_b4, List.length_map, RR, seval]
            refine hKC1 _ _ ⟨(by repeat (first | exact agC1 | refine agree.upd rfl ?_)), (by first | exact eC1_b4 | (simp only [nb4_b2, nb2_b4, upd_app, seval]; first | done | exact eC1_b4)), ?_⟩
            (subst hnm; simp_all [upd])
        · try (cases hc1; done)
          all_goals
            refine awp_skip ?_; try simp only [RR]
            refine hKC1 _ _ ⟨(by repeat (first | exact agC1 | refine agree.upd rfl ?_)), (by first | exact eC1_b4 | (simp only [nb4_b2, nb2_b4, upd_app, seval]; first | done | exact eC1_b4)), ?_⟩
            (subst hnm; simp_all [upd])
      rintro F2 M2 ⟨agx, gb4, hb2⟩
      have f1 := (agx 1 rfl).trans f1
      have f2 := (agx 2 rfl).trans f2
      have f4 := (agx 4 rfl).trans f4
      have hb4 := gb4.trans hb4
      clear agx
      clear gb4
      simp only [RR, seval]
      refine awp_seq_k fun K hK => ?_
      refine awp_region rfl ?_
      simp only [f1, f2, f4, hb4, hb2, nb4_b2, nb2_b4, List.length_map, RR, seval]
      refine hK _ _ ?_; clear hK K
      refine awp_seq ?_
      refine awp_seq_k fun K hK => ?_
      refine awp_region rfl ?_
      simp only [f1, f2, f4, hb4, hb2, nb4_b2, nb2_b4, List.length_map, RR, seval]
      refine hK _ _ ?_; clear hK K
      refine awp_name fun F3 M3 hfr hH => ?_
      have g1 := hfr 1
      have g2 := hfr 2
      have g4 := hfr 4
      have g5 := hfr 5
      have g6 := hfr 6
      have gb4 := hH b4
      have gb2 := hH b2
      try simp only [f1, f2, f4, hb4, hb2, nb4_b2, nb2_b4, List.length_map, RR, seval] at g1 g2 g4 g5 g6 gb4 gb2
      have f1 := g1; clear g1
      have f2 := g2; clear g2
      have f4 := g4; clear g4
      have f5 := g5; clear g5
      have f6 := g6; clear g6
      have hb4 := gb4; clear gb4
      have hb2 := gb2; clear gb2
      clear hfr hH
      refine awp_block ?_
      refine awp_each [1, 2, 4] (e.kids.length) (fun k fr M => fr 6 = .int .i64 (k : Nat) ∧ M b4 = M3 b4 ∧ M b2 = M3 b2 ∧ OwnL 5 (fr 5) (((e.kids.take k).map (rnX z)).map Ex.row) M ∧ Al.off (fr 5) b2 ∧ Al.off (fr 5) b4) ⟨f6, rfl, rfl, .inl ⟨f5, rfl⟩, (by rw [f5]; exact fun _ _ h => by cases h), (by rw [f5]; exact fun _ _ h => by cases h)⟩ ?_
      rintro k F4 M4 hk0 ⟨fx, gb4, gb2, hown, ho2, ho4⟩ agx K0 hK0
      have f1 := (agx 1 rfl).trans f1
      have f2 := (agx 2 rfl).trans f2
      have f4 := (agx 4 rfl).trans f4
      have f6 := fx; clear fx
      have hb4 := gb4.trans hb4
      have hb2 := gb2.trans hb2
      have ag0 := agree.refl [1, 2, 4] F4
      have e0_b4 := gb4; clear gb4
      have e0_b2 := gb2; clear gb2
      clear agx
      obtain ⟨v5, f5⟩ : ∃ v, F4 5 = v := ⟨_, rfl⟩
      rw [f5] at hown ho2 ho4
      refine awp_seq ?_
      refine awp_seq_k fun K hK => ?_
      refine awp_region rfl ?_
      simp only [f1, f2, f4, f6, f5, hb4, hb2, nb4_b2, nb2_b4, List.length_map, RR, seval]
      refine hK _ _ ?_; clear hK K
      refine awp_if _ rfl (fun hc => ?_) (fun hc => ?_)
      · have hlt0 : k < e.kids.length := by have := of_decide_eq_true hc; omega
        clear hc
        have hg := getE (List.getElem?_eq_getElem hlt0)
        have hsz := szE_mem (List.getElem_mem hlt0)
        have htk : e.kids.take (k + 1) = e.kids.take k ++ [e.kids[k]] := List.take_succ_eq_append_getElem hlt0
        have htl : (e.kids.take k).length ≤ e.kids.length := by rw [List.length_take]; omega
        generalize e.kids[k] = x at hg hsz htk
        have hih := ih x.sz (by omega) x (Nat.le_refl _) (by omega)
        rw [x.row_eq] at hih
        rw [rnX_row] at hih
        refine awp_skip ?_; try simp only [RR]
        refine awp_seq ?_
        refine awp_block ?_
        refine awp_region rfl ?_
        simp only [f1, f2, f4, f6, f5, hb4, hb2, nb4_b2, nb2_b4, List.length_map, hg, RR, seval]
        refine awpC_pure' (hih) ?_
        simp only [f1, f2, f4, f6, f5, hb4, hb2, nb4_b2, nb2_b4, List.length_map, hg, RR, seval]
        refine awpB_sealed ?_
        simp only [f1, f2, f4, f6, f5, hb4, hb2, nb4_b2, nb2_b4, List.length_map, hg, RR, seval]
        refine awpA_ownF hown (by simp only [List.length_map, List.length_cons, List.length_nil]; omega) (fun b e => by first | trivial | (repeat' apply And.intro) <;> (intro c; subst c; first | exact ho2 _ _ e | exact ho4 _ _ e )) fun v7 M5 hown' hk' hg' => ?_
        have ho2' := hg' b2 ho2 (by rw [hb2]; exact Option.some_ne_none _)
        have ho4' := hg' b4 ho4 (by rw [hb4]; exact Option.some_ne_none _)
        simp only [f1, f2, f4, f6, f5, hb4, hb2, nb4_b2, nb2_b4, List.length_map, hg, RR, seval]
        have gb4 := hk' b4 _ hb4 (by first | exact (hown).nb' hb4 (by decide) | exact ho4 _ _ | assumption | (intro e; simp_all))
        have e0_b4 := (gb4.trans hb4.symm).trans e0_b4
        have hb4 := gb4; clear gb4
        have gb2 := hk' b2 _ hb2 (by first | exact (hown).nb' hb2 (by decide) | exact ho2 _ _ | assumption | (intro e; simp_all))
        have e0_b2 := (gb2.trans hb2.symm).trans e0_b2
        have hb2 := gb2; clear gb2
        have hce := hown'.cells; have hoe := hown'.one1
        try simp only [hce, hoe, Option.bind_some, List.drop, f1, f2, f4, f6, f5, hb4, hb2, nb4_b2, nb2_b4, List.length_map, hg, RR, seval]
        refine awp_region rfl ?_
        simp only [f1, f2, f4, f6, f5, hb4, hb2, nb4_b2, nb2_b4, List.length_map, hg, RR, seval]
        try rw [IntWalk.i64_in _ (by omega)]
        refine hK0 _ _ hlt0 ⟨by first | rfl | (simp only [upd_app, seval]; rfl), (by first | exact e0_b4 | (simp only [nb4_b2, nb2_b4, upd_app, seval]; first | done | exact e0_b4)), (by first | exact e0_b2 | (simp only [nb4_b2, nb2_b4, upd_app, seval]; first | done | exact e0_b2)), by rw [htk, List.map_append, List.map_append, List.map_singleton, List.map_singleton, rnX_row]; exact hown', ho2', ho4'⟩ (by repeat (first | exact ag0 | refine agree.upd rfl ?_))
      · have hkn0 : k = e.kids.length := by have := of_decide_eq_false hc; omega
        clear hc
        refine awp_exit ?_; simp only [RR, seval]
        refine awp_name fun F6 M6 hfr hH => ?_
        have g2 := hfr 2
        have g4 := hfr 4
        have g5 := hfr 5
        have gb4 := hH b4
        have gb2 := hH b2
        try simp only [f1, f2, f4, f6, f5, hb4, hb2, nb4_b2, nb2_b4, List.length_map, RR, seval] at g2 g4 g5 gb4 gb2
        have hown := hown.same hH
        have f2 := g2; clear g2
        have f4 := g4; clear g4
        have f5 := g5; clear g5
        have hb4 := gb4; clear gb4
        have hb2 := gb2; clear gb2
        clear hfr hH
        rw [hkn0, List.take_length] at hown
        refine awp_seal2 (i := 5) (by rw [f5]; exact hown) fun F7 M7 hs hf' hk' => ?_
        have g2 := (hf' 2 (by decide) (by rw [f2]; first | exact apart_ptr _ _ _ _ _ | exact apart_int _ _ _ | exact apart_str _ _ | exact apart_isl _ _ _ | exact apart_bool _ _ | exact apart_bool' _ | exact apart_undef _ | exact apart_tup _ _ | exact apart_mp _ _ | assumption)).trans f2
        have g4 := (hf' 4 (by decide) (by rw [f4]; first | exact apart_ptr _ _ _ _ _ | exact apart_int _ _ _ | exact apart_str _ _ | exact apart_isl _ _ _ | exact apart_bool _ _ | exact apart_bool' _ | exact apart_undef _ | exact apart_tup _ _ | exact apart_mp _ _ | assumption)).trans f4
        have g5 := hs
        have gb4 := hk' b4 _ hb4 (by rw [f5]; first | exact (hown).nb' hb4 (by decide) | exact ho4 _ _ | assumption | (intro e; simp_all))
        have hb4 := gb4; clear gb4
        have gb2 := hk' b2 _ hb2 (by rw [f5]; first | exact (hown).nb' hb2 (by decide) | exact ho2 _ _ | assumption | (intro e; simp_all))
        have hb2 := gb2; clear gb2
        have f2 := g2; clear g2
        have f4 := g4; clear g4
        have f5 := g5; clear g5
        clear hs hf' hk'
        refine awp_seq_k fun K hK => ?_
        refine awp_region rfl ?_
        simp only [f2, f4, f5, hb4, hb2, nb4_b2, nb2_b4, List.length_map, RR, seval]
        refine hK _ _ ?_; clear hK K
        refine awp_seq_k fun K hK => ?_
        refine awp_region rfl ?_
        simp only [f2, f4, f5, hb4, hb2, nb4_b2, nb2_b4, List.length_map, RR, seval]
        refine hK _ _ ?_; clear hK K
        refine awp_ret ?_; simp only [bodyQ, aresult, ares, f2, f4, f5, hb4, hb2, nb4_b2, nb2_b4, List.length_map, RR, seval]
        refine Gives.pure ?_
        rfl
theorem TypingNames_con (p : Pg) (hp : p.ok) (e : Ex) (he : e.ok) : PCon env 8 [p.av, .agg e.row] (.bool true) := by
  have hF := Few_con p hp 100 (by omega) (by omega)
  have hw := fewB_few p hp 100 (by omega)
  have hR := fun h => Right_con p hp (fun f hf => by have := (hw h).fs f hf; omega)
  have hL := LeftExprs_con _ [e] 100 20 (Nat.le_refl _) (okE_1 he) (by omega) (by omega) (by omega) (by omega)
  have hX := RightExpr_con e he 1 (by omega) (by omega)
  have h1 := pExpr_con p hp e he
  have h2 := pExpr_con p hp _ (rnX_ok (z := [122, 122]) (by simp [fitL]) he)
  have h3 : 0 ≤ leftE [e] 100 20 → PCon env 23 [.agg e.row, .str [122, 122]] (.agg (rnX [122, 122] e).row) := fun h => by
    have := leftE_sz _ [e] 100 20 (Nat.le_refl _) h
    simp only [szE] at this
    exact renamed_con [122, 122] e.sz e (Nat.le_refl _) (by omega)
  have hav : p.av = .agg p.row := rfl
  have hrow : p.row = [.isl 1 (p.vars.map strRow), .isl 2 (p.arrs.map Ar.row), .isl 5 (p.funs.map Fu.row)] := rfl
  rw [rnX_exprT] at h2
  rw [rnX_row] at h2 h3
  rw [List.map_cons, List.map_nil] at hL
  generalize exprT p e = ty at *
  generalize rightX e 1 = RX at *
  generalize leftE [e] 100 20 = le at *
  generalize (if (decide (e.kind = 2) || decide (e.kind = 3)) = true then [122, 122] else e.name) = nm at *
  rw [hav, hrow] at hF h1 h2 hR ⊢
  rw [e.row_eq] at *
  obtain ⟨LB, zl⟩ : ∃ b, decide (le < 0) = b := ⟨_, rfl⟩
  cases hc : fewB p 100 with
  | false =>
    rw [hc] at hF
    refine con_of 51 [.tmp 4] Tryd.func8 rfl rfl rfl rfl ?_
    refine awp_seq_k fun K hK => ?_
    refine awp_region rfl ?_
    simp only [RR, seval]
    refine awpN_intro fun b2 hn2 => ?_
    simp only [RR, seval]
    refine awpN_intro fun b3 hn3 => ?_
    have nb3_b2 : b3 ≠ b2 := fun e => by rw [e] at hn3; simp only [RR, seval, reduceCtorEq] at hn3
    have nb2_b3 : b2 ≠ b3 := fun e => nb3_b2 e.symm
    simp only [nb3_b2, nb2_b3, RR, seval]
    refine hK _ _ ?_; clear hK K
    refine awp_seq ?_
    refine awp_seq_k fun K hK => ?_
    refine awp_region rfl ?_
    simp only [nb3_b2, nb2_b3, RR, seval]
    refine awpC_pure' (awake_con) ?_
    simp only [nb3_b2, nb2_b3, RR, seval]
    refine hK _ _ ?_; clear hK K
    refine awp_if false rfl (fun hc => by cases hc) (fun _ => ?_)
    refine awp_skip ?_; try simp only [RR]
    refine awp_seq ?_
    refine awp_seq_k fun K hK => ?_
    refine awp_region rfl ?_
    simp only [nb3_b2, nb2_b3, RR, seval]
    all_goals try (refine awpC_pure' (hF) ?_; simp only [nb3_b2, nb2_b3, RR, seval])
    all_goals try ((first | refine awpG_splitN (fun h => ?_) (fun h => ?_) | refine awpG_split (fun h => ?_) (fun h => ?_)) <;> simp only [h, nb3_b2, nb2_b3, RR, seval])
    all_goals try ((first | refine awpG_splitN (fun h => ?_) (fun h => ?_) | refine awpG_split (fun h => ?_) (fun h => ?_)) <;> simp only [h, nb3_b2, nb2_b3, RR, seval])
    all_goals try (refine awpB_sealed ?_; simp only [nb3_b2, nb2_b3, RR, seval])
    all_goals try ((first | refine awpG_splitN (fun h => ?_) (fun h => ?_) | refine awpG_split (fun h => ?_) (fun h => ?_)) <;> simp only [h, nb3_b2, nb2_b3, RR, seval])
    all_goals
      refine hK _ _ ?_; clear hK K
      refine awp_if true rfl (fun _ => ?_) (fun hc => by cases hc)
      refine awp_seq_k fun K hK => ?_
      refine awp_region rfl ?_
      simp only [nb3_b2, nb2_b3, RR, seval]
      refine hK _ _ ?_; clear hK K
      refine awp_ret ?_; simp only [bodyQ, aresult, ares, nb3_b2, nb2_b3, RR, seval]
      refine Gives.pure ?_
      rfl
  | true =>
    rw [hc] at hF
    have hR := hR hc
    generalize rightP p = RP at hR
    clear hw
    cases RP <;> cases RX <;> cases LB
    all_goals
      refine con_of 51 [.tmp 4] Tryd.func8 rfl rfl rfl rfl ?_
      refine awp_seq_k fun K hK => ?_
      refine awp_region rfl ?_
      simp only [zl, RR, seval]
      refine awpN_intro fun b2 hn2 => ?_
      simp only [zl, RR, seval]
      refine awpN_intro fun b3 hn3 => ?_
      have nb3_b2 : b3 ≠ b2 := fun e => by rw [e] at hn3; simp only [zl, RR, seval, reduceCtorEq] at hn3
      have nb2_b3 : b2 ≠ b3 := fun e => nb3_b2 e.symm
      simp only [nb3_b2, nb2_b3, zl, RR, seval]
      refine hK _ _ ?_; clear hK K
      refine awp_seq ?_
      refine awp_seq_k fun K hK => ?_
      refine awp_region rfl ?_
      simp only [nb3_b2, nb2_b3, zl, RR, seval]
      refine awpC_pure' (awake_con) ?_
      simp only [nb3_b2, nb2_b3, zl, RR, seval]
      refine hK _ _ ?_; clear hK K
      refine awp_if false rfl (fun hc => by cases hc) (fun _ => ?_)
      refine awp_skip ?_; try simp only [RR]
      refine awp_seq ?_
      refine awp_seq_k fun K hK => ?_
      refine awp_region rfl ?_
      simp only [nb3_b2, nb2_b3, zl, RR, seval]
      all_goals try (refine awpC_pure' (hF) ?_; simp only [nb3_b2, nb2_b3, zl, RR, seval])
      all_goals try ((first | refine awpG_splitN (fun h => ?_) (fun h => ?_) | refine awpG_split (fun h => ?_) (fun h => ?_)) <;> simp only [h, nb3_b2, nb2_b3, zl, RR, seval])
      all_goals try (refine awpC_pure' (hR) ?_; simp only [nb3_b2, nb2_b3, zl, RR, seval])
      all_goals try ((first | refine awpG_splitN (fun h => ?_) (fun h => ?_) | refine awpG_split (fun h => ?_) (fun h => ?_)) <;> simp only [h, nb3_b2, nb2_b3, zl, RR, seval])
      all_goals try (refine awpB_sealed ?_; simp only [nb3_b2, nb2_b3, zl, RR, seval])
      all_goals try (refine awpC_pure' (hL) ?_; simp only [nb3_b2, nb2_b3, zl, RR, seval])
      all_goals try ((first | refine awpG_splitN (fun h => ?_) (fun h => ?_) | refine awpG_split (fun h => ?_) (fun h => ?_)) <;> simp only [h, nb3_b2, nb2_b3, zl, RR, seval])
      all_goals try (refine awpC_pure' (hX) ?_; simp only [nb3_b2, nb2_b3, zl, RR, seval])
      all_goals
        refine hK _ _ ?_; clear hK K
        refine awp_if _ rfl (fun hc3 => ?_) (fun hc3 => ?_)
        · try (cases hc3; done)
          all_goals
            refine awp_seq_k fun K hK => ?_
            refine awp_region rfl ?_
            simp only [nb3_b2, nb2_b3, zl, RR, seval]
            refine hK _ _ ?_; clear hK K
            refine awp_ret ?_; simp only [bodyQ, aresult, ares, nb3_b2, nb2_b3, zl, RR, seval]
            refine Gives.pure ?_
            rfl
        · try (cases hc3; done)
          all_goals
            refine awp_skip ?_; try simp only [RR]
            refine awp_seq_k fun K hK => ?_
            refine awp_region rfl ?_
            simp only [nb3_b2, nb2_b3, zl, RR, seval]
            refine awpC_pure' (h1) ?_
            simp only [nb3_b2, nb2_b3, zl, RR, seval]
            refine hK _ _ ?_; clear hK K
            refine awp_seq_k fun K hK => ?_
            refine awp_region_draw2 (fun x => x ≠ b2 ∧ x ≠ b3) [(0, 0), (1, 1), (2, 1), (3, 1), (4, 3), (5, 3), (6, 3), (7, 3), (8, 3)] [] draws (by kernel_rfl) rfl rfl ?_
            simp only [emitF, markOf, touch_mp, touch_imp, touch_nmp, ne_eq, not_true_eq_false, and_false, false_and, not_false_eq_true, nb3_b2, nb2_b3, zl, RR, seval]
            refine awpC_pure' ((h3 (by have := of_decide_eq_false zl; omega))) ?_
            simp only [emitF, markOf, touch_mp, touch_imp, touch_nmp, ne_eq, not_true_eq_false, and_false, false_and, not_false_eq_true, nb3_b2, nb2_b3, zl, RR, seval]
            refine awpC_pure' (h2) ?_
            simp only [emitF, markOf, touch_mp, touch_imp, touch_nmp, ne_eq, not_true_eq_false, and_false, false_and, not_false_eq_true, nb3_b2, nb2_b3, zl, RR, seval]
            refine hK _ _ ?_; clear hK K
            refine awp_seq_k fun K hK => ?_
            refine awp_region rfl ?_
            simp only [nb3_b2, nb2_b3, zl, RR, seval]
            refine hK _ _ ?_; clear hK K
            refine awp_ret ?_; simp only [bodyQ, aresult, ares, nb3_b2, nb2_b3, zl, RR, seval]
            refine Gives.pure ?_
            rfl
end Go.Proofs.YtefjogkgeelbdaaDoor
