/- Chapter 17, the judge's: types of expressions. -/
import Derived.Test.YtlokndnkpleegaaT17a
set_option linter.unusedSimpArgs false
set_option linter.unusedVariables false
set_option maxRecDepth 10000
namespace Go.Proofs.Ytlokndnkpleegaa
open Go.Al
theorem Function_con (p : Pg) (hp : fitL p.funs) (s : Str) : PCon env 88 [p.av, .str s] (.int .i64 (optI (placeN (p.funs.map Fu.name) s))) := by
  obtain ⟨vs, aa, fs⟩ := p
  simp only [Pg.av, Pg.row, fitL] at *
  refine con_of 22 [.tmp 4] Try.func88 rfl rfl rfl rfl ?_
  refine awp_seq_k fun K hK => ?_
  refine awp_region rfl ?_
  simp only [List.length_map, RR, seval]
  refine awpN_intro fun b2 hn2 => ?_
  simp only [List.length_map, RR, seval]
  refine hK _ _ ?_; clear hK K
  refine awp_seq ?_
  refine awp_seq_k fun K hK => ?_
  refine awp_region rfl ?_
  simp only [List.length_map, RR, seval]
  refine hK _ _ ?_; clear hK K
  refine awp_name fun F1 M1 hfr hH => ?_
  have g1 := hfr 1
  have g2 := hfr 2
  have g4 := hfr 4
  have g5 := hfr 5
  have gb2 := hH b2
  try simp only [List.length_map, RR, seval] at g1 g2 g4 g5 gb2
  have f1 := g1; clear g1
  have f2 := g2; clear g2
  have f4 := g4; clear g4
  have f5 := g5; clear g5
  have hb2 := gb2; clear gb2
  clear hfr hH
  refine awp_block ?_
  refine awp_each [1, 2] (fs.length) (fun k fr M => fr 5 = .int .i64 (k : Nat) ∧ M b2 = M1 b2 ∧ ((fs.map Fu.name).take k).contains s = false) ⟨f5, rfl, by simp⟩ ?_
  rintro k F2 M2 hk0 ⟨fx, gb2, hno⟩ agx K0 hK0
  have f1 := (agx 1 rfl).trans f1
  have f2 := (agx 2 rfl).trans f2
  have f5 := fx; clear fx
  have hb2 := gb2.trans hb2
  have ag0 := agree.refl [1, 2] F2
  have e0_b2 := gb2; clear gb2
  clear agx
  refine awp_seq ?_
  refine awp_seq_k fun K hK => ?_
  refine awp_region rfl ?_
  simp only [f2, f5, hb2, List.length_map, RR, seval]
  refine hK _ _ ?_; clear hK K
  refine awp_if _ rfl (fun hc => ?_) (fun hc => ?_)
  · have hlt0 : k < fs.length := by have := of_decide_eq_true hc; omega
    clear hc
    have hg := getF (List.getElem?_eq_getElem hlt0)
    have htk : (fs.map Fu.name).take (k + 1) = (fs.map Fu.name).take k ++ [fs[k].name] := by rw [List.take_succ_eq_append_getElem (by simpa using hlt0)]; simp
    have hdr : (fs.map Fu.name).drop k = fs[k].name :: (fs.map Fu.name).drop (k + 1) := by rw [List.drop_eq_getElem_cons (by simpa using hlt0)]; simp
    generalize fs[k] = f at hg htk hdr
    refine awp_skip ?_; try simp only [RR]
    refine awp_seq ?_
    refine awp_block ?_
    refine awp_seq_k fun K hK => ?_
    refine awp_region rfl ?_
    simp only [f1, f2, f5, hb2, List.length_map, hg, RR, seval]
    refine hK _ _ ?_; clear hK K
    refine awp_if _ rfl (fun hc4 => ?_) (fun hc4 => ?_)
    · refine awp_seq_k fun K hK => ?_
      refine awp_region rfl ?_
      simp only [f5, List.length_map, hg, RR, seval]
      refine hK _ _ ?_; clear hK K
      refine awp_ret ?_; simp only [bodyQ, aresult, ares, List.length_map, hg, RR, seval]
      refine Gives.pure ?_
      rw [placeN_from _ _ _ hno, hdr, placeN, if_pos (of_decide_eq_true hc4)]
      simp [optI]
    · refine awp_skip ?_; try simp only [RR]
      refine awp_region rfl ?_
      simp only [f5, List.length_map, hg, RR, seval]
      try rw [IntWalk.i64_in _ (by omega)]
      refine hK0 _ _ hlt0 ⟨by first | rfl | (simp only [upd_app, seval]; rfl), (by first | exact e0_b2 | (simp only [upd_app, seval]; first | done | exact e0_b2)), by rw [htk, List.contains_append, hno, Bool.false_or]; have := of_decide_eq_false hc4; simp; exact fun e => this e.symm⟩ (by repeat (first | exact ag0 | refine agree.upd rfl ?_))
  · have hkn0 : k = fs.length := by have := of_decide_eq_false hc; omega
    clear hc
    refine awp_exit ?_; simp only [RR, seval]
    refine awp_seq_k fun K hK => ?_
    refine awp_region rfl ?_
    simp only [List.length_map, RR, seval]
    refine hK _ _ ?_; clear hK K
    refine awp_ret ?_; simp only [bodyQ, aresult, ares, List.length_map, RR, seval]
    refine Gives.pure ?_
    rw [hkn0] at hno
    rw [placeN_from _ _ fs.length hno, List.drop_eq_nil_of_le (by simp)]
    rfl
/-- the type of each of these is known to be found -/
def TyOk (p : Pg) (l : List Ex) : Prop := ∀ e ∈ l, PCon env 98 [p.av, .agg e.row] (.int .i64 (tyE (wdF p) e))
theorem Words_con (p : Pg) (l : List Ex) (hl : fitL l) (h : TyOk p l) : PCon env 91 [p.av, .isl 5 (l.map Ex.row)] (.bool (allT (wdF p) l 1)) := by
  simp only [fitL] at hl
  unfold TyOk at h
  generalize wdF p = W at *
  simp only [Pg.av, Pg.row] at *
  refine con_of 19 [.tmp 4] Try.func91 rfl rfl rfl rfl ?_
  refine awp_seq_k fun K hK => ?_
  refine awp_region rfl ?_
  simp only [List.length_map, RR, seval]
  refine awpN_intro fun b2 hn2 => ?_
  simp only [List.length_map, RR, seval]
  refine hK _ _ ?_; clear hK K
  refine awp_seq ?_
  refine awp_seq_k fun K hK => ?_
  refine awp_region rfl ?_
  simp only [List.length_map, RR, seval]
  refine hK _ _ ?_; clear hK K
  refine awp_name fun F1 M1 hfr hH => ?_
  have g1 := hfr 1
  have g2 := hfr 2
  have g4 := hfr 4
  have g5 := hfr 5
  have gb2 := hH b2
  try simp only [List.length_map, RR, seval] at g1 g2 g4 g5 gb2
  have f1 := g1; clear g1
  have f2 := g2; clear g2
  have f4 := g4; clear g4
  have f5 := g5; clear g5
  have hb2 := gb2; clear gb2
  clear hfr hH
  refine awp_block ?_
  refine awp_each [1, 2] (l.length) (fun k fr M => fr 5 = .int .i64 (k : Nat) ∧ M b2 = M1 b2 ∧ allT W l 1 = allT W (l.drop k) 1) ⟨f5, rfl, by rw [List.drop_zero]⟩ ?_
  rintro k F2 M2 hk0 ⟨fx, gb2, hall⟩ agx K0 hK0
  have f1 := (agx 1 rfl).trans f1
  have f2 := (agx 2 rfl).trans f2
  have f5 := fx; clear fx
  have hb2 := gb2.trans hb2
  have ag0 := agree.refl [1, 2] F2
  have e0_b2 := gb2; clear gb2
  clear agx
  refine awp_seq ?_
  refine awp_seq_k fun K hK => ?_
  refine awp_region rfl ?_
  simp only [f1, f5, hb2, List.length_map, RR, seval]
  refine hK _ _ ?_; clear hK K
  refine awp_if _ rfl (fun hc => ?_) (fun hc => ?_)
  · have hlt0 : k < l.length := by have := of_decide_eq_true hc; omega
    clear hc
    have hg := getE (List.getElem?_eq_getElem hlt0)
    have hm := h _ (List.getElem_mem hlt0)
    rw [List.drop_eq_getElem_cons hlt0, allT_cons] at hall
    generalize l[k] = e at hg hall hm
    rw [e.row_eq] at hm
    generalize tyE W e = t at hall hm
    refine awp_skip ?_; try simp only [RR]
    refine awp_seq ?_
    refine awp_block ?_
    refine awp_seq_k fun K hK => ?_
    refine awp_region_draw2 (fun x => x ≠ b2) [(0, 1), (1, 3), (2, 3), (3, 3), (4, 1), (5, 1), (6, 3)] [] draws (by kernel_rfl) rfl rfl ?_
    simp only [emitF, markOf, EM, f1, f2, f5, hb2, List.length_map, hg, RR, seval]
    refine awpC_pure' (hm) ?_
    simp only [emitF, markOf, EM, f1, f2, f5, hb2, List.length_map, hg, RR, seval]
    refine hK _ _ ?_; clear hK K
    refine awp_if _ rfl (fun hc4 => ?_) (fun hc4 => ?_)
    · refine awp_seq_k fun K hK => ?_
      refine awp_region rfl ?_
      simp only [List.length_map, hg, RR, seval]
      refine hK _ _ ?_; clear hK K
      refine awp_ret ?_; simp only [bodyQ, aresult, ares, List.length_map, hg, RR, seval]
      refine Gives.pure ?_
      rw [hall, show decide (t = 1) = false by simpa using hc4, Bool.false_and]
    · refine awp_skip ?_; try simp only [RR]
      refine awp_region rfl ?_
      simp only [f5, List.length_map, hg, RR, seval]
      try rw [IntWalk.i64_in _ (by omega)]
      refine hK0 _ _ hlt0 ⟨by first | rfl | (simp only [upd_app, seval]; rfl), (by first | exact e0_b2 | (simp only [upd_app, seval]; first | done | exact e0_b2)), by rw [hall, show decide (t = 1) = true by simpa using hc4, Bool.true_and]⟩ (by repeat (first | exact ag0 | refine agree.upd rfl ?_))
  · have hkn0 : k = l.length := by have := of_decide_eq_false hc; omega
    clear hc
    refine awp_exit ?_; simp only [RR, seval]
    refine awp_seq_k fun K hK => ?_
    refine awp_region rfl ?_
    simp only [List.length_map, RR, seval]
    refine hK _ _ ?_; clear hK K
    refine awp_ret ?_; simp only [bodyQ, aresult, ares, List.length_map, RR, seval]
    refine Gives.pure ?_
    rw [hall, hkn0, List.drop_length, allT_nil]
theorem Bools_con (p : Pg) (l : List Ex) (hl : fitL l) (h : TyOk p l) : PCon env 90 [p.av, .isl 5 (l.map Ex.row)] (.bool (allT (wdF p) l 2)) := by
  simp only [fitL] at hl
  unfold TyOk at h
  generalize wdF p = W at *
  simp only [Pg.av, Pg.row] at *
  refine con_of 19 [.tmp 4] Try.func90 rfl rfl rfl rfl ?_
  refine awp_seq_k fun K hK => ?_
  refine awp_region rfl ?_
  simp only [List.length_map, RR, seval]
  refine awpN_intro fun b2 hn2 => ?_
  simp only [List.length_map, RR, seval]
  refine hK _ _ ?_; clear hK K
  refine awp_seq ?_
  refine awp_seq_k fun K hK => ?_
  refine awp_region rfl ?_
  simp only [List.length_map, RR, seval]
  refine hK _ _ ?_; clear hK K
  refine awp_name fun F1 M1 hfr hH => ?_
  have g1 := hfr 1
  have g2 := hfr 2
  have g4 := hfr 4
  have g5 := hfr 5
  have gb2 := hH b2
  try simp only [List.length_map, RR, seval] at g1 g2 g4 g5 gb2
  have f1 := g1; clear g1
  have f2 := g2; clear g2
  have f4 := g4; clear g4
  have f5 := g5; clear g5
  have hb2 := gb2; clear gb2
  clear hfr hH
  refine awp_block ?_
  refine awp_each [1, 2] (l.length) (fun k fr M => fr 5 = .int .i64 (k : Nat) ∧ M b2 = M1 b2 ∧ allT W l 2 = allT W (l.drop k) 2) ⟨f5, rfl, by rw [List.drop_zero]⟩ ?_
  rintro k F2 M2 hk0 ⟨fx, gb2, hall⟩ agx K0 hK0
  have f1 := (agx 1 rfl).trans f1
  have f2 := (agx 2 rfl).trans f2
  have f5 := fx; clear fx
  have hb2 := gb2.trans hb2
  have ag0 := agree.refl [1, 2] F2
  have e0_b2 := gb2; clear gb2
  clear agx
  refine awp_seq ?_
  refine awp_seq_k fun K hK => ?_
  refine awp_region rfl ?_
  simp only [f1, f5, hb2, List.length_map, RR, seval]
  refine hK _ _ ?_; clear hK K
  refine awp_if _ rfl (fun hc => ?_) (fun hc => ?_)
  · have hlt0 : k < l.length := by have := of_decide_eq_true hc; omega
    clear hc
    have hg := getE (List.getElem?_eq_getElem hlt0)
    have hm := h _ (List.getElem_mem hlt0)
    rw [List.drop_eq_getElem_cons hlt0, allT_cons] at hall
    generalize l[k] = e at hg hall hm
    rw [e.row_eq] at hm
    generalize tyE W e = t at hall hm
    refine awp_skip ?_; try simp only [RR]
    refine awp_seq ?_
    refine awp_block ?_
    refine awp_seq_k fun K hK => ?_
    refine awp_region_draw2 (fun x => x ≠ b2) [(0, 1), (1, 3), (2, 3), (3, 3), (4, 1), (5, 1), (6, 3)] [] draws (by kernel_rfl) rfl rfl ?_
    simp only [emitF, markOf, EM, f1, f2, f5, hb2, List.length_map, hg, RR, seval]
    refine awpC_pure' (hm) ?_
    simp only [emitF, markOf, EM, f1, f2, f5, hb2, List.length_map, hg, RR, seval]
    refine hK _ _ ?_; clear hK K
    refine awp_if _ rfl (fun hc4 => ?_) (fun hc4 => ?_)
    · refine awp_seq_k fun K hK => ?_
      refine awp_region rfl ?_
      simp only [List.length_map, hg, RR, seval]
      refine hK _ _ ?_; clear hK K
      refine awp_ret ?_; simp only [bodyQ, aresult, ares, List.length_map, hg, RR, seval]
      refine Gives.pure ?_
      rw [hall, show decide (t = 2) = false by simpa using hc4, Bool.false_and]
    · refine awp_skip ?_; try simp only [RR]
      refine awp_region rfl ?_
      simp only [f5, List.length_map, hg, RR, seval]
      try rw [IntWalk.i64_in _ (by omega)]
      refine hK0 _ _ hlt0 ⟨by first | rfl | (simp only [upd_app, seval]; rfl), (by first | exact e0_b2 | (simp only [upd_app, seval]; first | done | exact e0_b2)), by rw [hall, show decide (t = 2) = true by simpa using hc4, Bool.true_and]⟩ (by repeat (first | exact ag0 | refine agree.upd rfl ?_))
  · have hkn0 : k = l.length := by have := of_decide_eq_false hc; omega
    clear hc
    refine awp_exit ?_; simp only [RR, seval]
    refine awp_seq_k fun K hK => ?_
    refine awp_region rfl ?_
    simp only [List.length_map, RR, seval]
    refine hK _ _ ?_; clear hK K
    refine awp_ret ?_; simp only [bodyQ, aresult, ares, List.length_map, RR, seval]
    refine Gives.pure ?_
    rw [hall, hkn0, List.drop_length, allT_nil]
theorem Type_con (p : Pg) (hp : p.ok) (n : Nat) : ∀ e : Ex, e.sz ≤ n → e.ok → PCon env 98 [p.av, .agg e.row] (.int .i64 (tyE (wdF p) e)) := by
  induction n using Nat.strongRecOn with
  | _ n ih =>
    intro e hn he
    have hz := e.sz_eq
    have hk := he.kids
    have hall : TyOk p e.kids := fun x hx => ih x.sz (by have := szE_mem hx; omega) x (Nat.le_refl _) (hk.all x hx)
    have hW := Words_con p e.kids hk.fit hall
    have hB := Bools_con p e.kids hk.fit hall
    have hF := Function_con p hp.ffit e.name
    have hty := tyE_eq (wdF p) e
    have hwd : wdF p e.name = match (placeN (p.funs.map Fu.name) e.name).bind (fun k => p.funs[k]?) with | some f => f.word | none => false := by simp only [wdF, fnOf_place] <;> rfl
    have hpl := fun k h => placeN_lt (p.funs.map Fu.name) e.name k h
    have hff := hp.ffit
    generalize tyE (wdF p) e = res at *
    generalize wdF p e.name = WD at *
    generalize allT (wdF p) e.kids 1 = A1 at *
    generalize allT (wdF p) e.kids 2 = A2 at *
    obtain ⟨g, hg1, hg2⟩ : ∃ g : Fu, (decide ((0 : Int) ≤ optI (placeN (p.funs.map Fu.name) e.name)) = true → (p.funs.map Fu.row)[(optI (placeN (p.funs.map Fu.name) e.name)).toNat]? = some [.str g.name, .isl 1 (g.params.map strRow), .isl 1 (g.locs.map strRow), .bool g.word, .isl 5 (g.body.map Sm.row)]) ∧ WD = (decide ((0 : Int) ≤ optI (placeN (p.funs.map Fu.name) e.name)) && g.word) := by
      cases hc : placeN (p.funs.map Fu.name) e.name with
      | none =>
        rw [hc] at hwd
        exact ⟨⟨[], [], [], false, []⟩, fun h => by simp [optI] at h, by rw [hwd]; rfl⟩
      | some k =>
        rw [hc] at hwd
        have hlt := (hpl k hc).1
        rw [List.length_map] at hlt
        refine ⟨p.funs[k], fun _ => ?_, ?_⟩
        · simp only [optI, Int.toNat_natCast]
          exact getF (List.getElem?_eq_getElem hlt)
        · rw [hwd]
          simp [optI, List.getElem?_eq_getElem hlt]
    have z2 : decide ((0 : Int) ≤ optI (placeN (p.funs.map Fu.name) e.name)) = true → (0 : Int) ≤ optI (placeN (p.funs.map Fu.name) e.name) := of_decide_eq_true
    generalize optI (placeN (p.funs.map Fu.name) e.name) = pl at *
    clear hall ih hp hpl hwd
    subst hg2
    rw [e.row_eq]
    simp only [Pg.av, Pg.row, fitL] at *
    refine con_of 63 [.tmp 4] Try.func98 rfl rfl rfl rfl ?_
    refine awp_seq_k fun K hK => ?_
    refine awp_region rfl ?_
    simp only [List.length_map, RR, seval]
    refine awpN_intro fun b2 hn2 => ?_
    simp only [List.length_map, RR, seval]
    refine awpN_intro fun b3 hn3 => ?_
    have nb3_b2 : b3 ≠ b2 := fun e => by rw [e] at hn3; simp only [RR, seval, reduceCtorEq] at hn3
    have nb2_b3 : b2 ≠ b3 := fun e => nb3_b2 e.symm
    simp only [nb3_b2, nb2_b3, List.length_map, RR, seval]
    refine hK _ _ ?_; clear hK K
    refine awp_seq ?_
    refine awp_seq_k fun K hK => ?_
    refine awp_region rfl ?_
    simp only [nb3_b2, nb2_b3, List.length_map, RR, seval]
    refine hK _ _ ?_; clear hK K
    refine awp_block ?_
    refine awp_seq ?_
    refine awp_seq_k fun K hK => ?_
    refine awp_region rfl ?_
    simp only [List.length_map, RR, seval]
    refine hK _ _ ?_; clear hK K
    refine awp_name fun F1 M1 hfr hH => ?_
    have g2 := hfr 2
    have g3 := hfr 3
    have g4 := hfr 4
    have g7 := hfr 7
    have g8 := hfr 8
    have gb2 := hH b2
    have gb3 := hH b3
    try simp only [nb3_b2, nb2_b3, List.length_map, RR, seval] at g2 g3 g4 g7 g8 gb2 gb3
    have f2 := g2; clear g2
    have f3 := g3; clear g3
    have f4 := g4; clear g4
    have f7 := g7; clear g7
    have f8 := g8; clear g8
    have hb2 := gb2; clear gb2
    have hb3 := gb3; clear gb3
    clear hfr hH
    refine awp_cutP (fun fr M => agree [2, 3, 4, 7] F1 fr ∧ M b2 = M1 b2 ∧ M b3 = M1 b3 ∧ fr 8 = .bool (decide (e.kind = 1 ∨ e.kind = 2 ∨ e.kind = 5))) (fun KC2 hKC2 => ?_) ?_
    · have agC2 := agree.refl [2, 3, 4, 7] F1
      have eC2_b2 : M1 b2 = M1 b2 := rfl
      have eC2_b3 : M1 b3 = M1 b3 := rfl
      refine awp_if _ (by first | rfl | exact f8) (fun hc2 => ?_) (fun hc2 => ?_)
      · refine awp_skip ?_; try simp only [RR]
        refine hKC2 _ _ ⟨(by repeat (first | exact agC2 | refine agree.upd rfl ?_)), (by first | exact eC2_b2 | (simp only [nb3_b2, nb2_b3, upd_app, seval]; first | done | exact eC2_b2)), (by first | exact eC2_b3 | (simp only [nb3_b2, nb2_b3, upd_app, seval]; first | done | exact eC2_b3)), ?_⟩
        first | (rw [f8, hc2]; simp [of_decide_eq_true hc2]) | (simp only [upd_app, seval]; simp [hc2, hc3, of_decide_eq_true]; done) | (simp only [upd_app, seval]; simp_all)
      · refine awp_seq_k fun K hK => ?_
        refine awp_region rfl ?_
        simp only [f7, List.length_map, RR, seval]
        refine hK _ _ ?_; clear hK K
        refine awp_if _ (by first | rfl | exact f8) (fun hc3 => ?_) (fun hc3 => ?_)
        · refine awp_skip ?_; try simp only [RR]
          refine hKC2 _ _ ⟨(by repeat (first | exact agC2 | refine agree.upd rfl ?_)), (by first | exact eC2_b2 | (simp only [nb3_b2, nb2_b3, upd_app, seval]; first | done | exact eC2_b2)), (by first | exact eC2_b3 | (simp only [nb3_b2, nb2_b3, upd_app, seval]; first | done | exact eC2_b3)), ?_⟩
          first | (rw [f8, hc2]; simp [of_decide_eq_true hc2]) | (simp only [upd_app, seval]; simp [hc2, hc3, of_decide_eq_true]; done) | (simp only [upd_app, seval]; simp_all)
        · refine awp_region rfl ?_
          simp only [f7, List.length_map, RR, seval]
          refine hKC2 _ _ ⟨(by repeat (first | exact agC2 | refine agree.upd rfl ?_)), (by first | exact eC2_b2 | (simp only [nb3_b2, nb2_b3, upd_app, seval]; first | done | exact eC2_b2)), (by first | exact eC2_b3 | (simp only [nb3_b2, nb2_b3, upd_app, seval]; first | done | exact eC2_b3)), ?_⟩
          first | (rw [f8, hc2]; simp [of_decide_eq_true hc2]) | (simp only [upd_app, seval]; simp [hc2, hc3, of_decide_eq_true]; done) | (simp only [upd_app, seval]; simp_all)
    rintro F2 M2 ⟨agx, gb2, gb3, f8⟩
    have f2 := (agx 2 rfl).trans f2
    have f3 := (agx 3 rfl).trans f3
    have f4 := (agx 4 rfl).trans f4
    have f7 := (agx 7 rfl).trans f7
    have hb2 := gb2.trans hb2
    have hb3 := gb3.trans hb3
    clear agx
    clear gb2
    clear gb3
    simp only [RR, seval]
    refine awp_if _ (by first | rfl | exact f8) (fun hc4 => ?_) (fun hc4 => ?_)
    · refine awp_seq_k fun K hK => ?_
      refine awp_region rfl ?_
      simp only [List.length_map, RR, seval]
      refine hK _ _ ?_; clear hK K
      refine awp_ret ?_; simp only [bodyQ, aresult, ares, f4, List.length_map, RR, seval]
      refine Gives.pure ?_
      rw [hty]
      clear hW hB hF hty hg1
      simp_all
      all_goals (intros; omega)
    · refine awp_seq_k fun K hK => ?_
      refine awp_region rfl ?_
      simp only [f7, List.length_map, RR, seval]
      refine hK _ _ ?_; clear hK K
      refine awp_if _ rfl (fun hc6 => ?_) (fun hc6 => ?_)
      · refine awp_seq_k fun K hK => ?_
        refine awp_region rfl ?_
        simp only [f2, f3, hb2, hb3, nb3_b2, nb2_b3, List.length_map, RR, seval]
        refine awpC_pure' (hW) ?_
        simp only [f2, f3, hb2, hb3, nb3_b2, nb2_b3, List.length_map, RR, seval]
        refine hK _ _ ?_; clear hK K
        refine awp_if _ rfl (fun hc7 => ?_) (fun hc7 => ?_)
        · refine awp_seq_k fun K hK => ?_
          refine awp_region rfl ?_
          simp only [List.length_map, RR, seval]
          refine hK _ _ ?_; clear hK K
          refine awp_ret ?_; simp only [bodyQ, aresult, ares, f4, List.length_map, RR, seval]
          refine Gives.pure ?_
          rw [hty]
          clear hW hB hF hty hg1
          simp_all
          all_goals (intros; omega)
        · refine awp_skip ?_; try simp only [RR]
          refine awp_seq_k fun K hK => ?_
          refine awp_region rfl ?_
          simp only [List.length_map, RR, seval]
          refine hK _ _ ?_; clear hK K
          refine awp_ret ?_; simp only [bodyQ, aresult, ares, f4, List.length_map, RR, seval]
          refine Gives.pure ?_
          rw [hty]
          clear hW hB hF hty hg1
          simp_all
          all_goals (intros; omega)
      · refine awp_seq_k fun K hK => ?_
        refine awp_region rfl ?_
        simp only [f7, List.length_map, RR, seval]
        refine hK _ _ ?_; clear hK K
        refine awp_if _ rfl (fun hc9 => ?_) (fun hc9 => ?_)
        · refine awp_seq_k fun K hK => ?_
          refine awp_region rfl ?_
          simp only [f2, f3, hb2, hb3, nb3_b2, nb2_b3, List.length_map, hg1, z2, RR, seval]
          refine awpC_pure' (hF) ?_
          simp only [f2, f3, hb2, hb3, nb3_b2, nb2_b3, List.length_map, hg1, z2, RR, seval]
          refine hK _ _ ?_; clear hK K
          refine awp_seq_k fun K hK => ?_
          refine awp_region rfl ?_
          simp only [f2, f3, hb2, hb3, nb3_b2, nb2_b3, List.length_map, hg1, z2, RR, seval]
          all_goals try ((first | refine awpG_splitN (fun h => ?_) (fun h => ?_) | refine awpG_split (fun h => ?_) (fun h => ?_)) <;> simp only [h, f2, f3, f4, f7, f8, hb2, hb3, nb3_b2, nb2_b3, List.length_map, hg1, z2, RR, seval])
          all_goals try ((first | refine awpG_splitN (fun h => ?_) (fun h => ?_) | refine awpG_split (fun h => ?_) (fun h => ?_)) <;> simp only [h, f2, f3, f4, f7, f8, hb2, hb3, nb3_b2, nb2_b3, List.length_map, hg1, z2, RR, seval])
          all_goals try (refine awpC_pure' (hW) ?_; simp only [f2, f3, hb2, hb3, nb3_b2, nb2_b3, List.length_map, hg1, z2, RR, seval])
          all_goals
            refine hK _ _ ?_; clear hK K
            refine awp_if _ rfl (fun hc11 => ?_) (fun hc11 => ?_)
            · try (cases hc11; done)
              all_goals
                refine awp_seq_k fun K hK => ?_
                refine awp_region rfl ?_
                simp only [List.length_map, hg1, z2, RR, seval]
                refine hK _ _ ?_; clear hK K
                refine awp_ret ?_; simp only [bodyQ, aresult, ares, f4, List.length_map, hg1, z2, RR, seval]
                refine Gives.pure ?_
                rw [hty]
                clear hW hB hF hty hg1
                simp_all
                all_goals (intros; omega)
            · try (cases hc11; done)
              all_goals
                refine awp_skip ?_; try simp only [RR]
                refine awp_seq_k fun K hK => ?_
                refine awp_region rfl ?_
                simp only [List.length_map, hg1, z2, RR, seval]
                refine hK _ _ ?_; clear hK K
                refine awp_ret ?_; simp only [bodyQ, aresult, ares, f4, List.length_map, hg1, z2, RR, seval]
                refine Gives.pure ?_
                rw [hty]
                clear hW hB hF hty hg1
                simp_all
                all_goals (intros; omega)
        · refine awp_seq_k fun K hK => ?_
          refine awp_region rfl ?_
          simp only [f7, List.length_map, RR, seval]
          refine hK _ _ ?_; clear hK K
          refine awp_if _ rfl (fun hc13 => ?_) (fun hc13 => ?_)
          · refine awp_seq ?_
            refine awp_seq_k fun K hK => ?_
            refine awp_region rfl ?_
            simp only [f2, f3, hb2, hb3, nb3_b2, nb2_b3, List.length_map, RR, seval]
            refine awpC_pure' (hW) ?_
            simp only [f2, f3, hb2, hb3, nb3_b2, nb2_b3, List.length_map, RR, seval]
            refine hK _ _ ?_; clear hK K
            refine awp_if _ rfl (fun hc14 => ?_) (fun hc14 => ?_)
            · refine awp_seq_k fun K hK => ?_
              refine awp_region rfl ?_
              simp only [List.length_map, RR, seval]
              refine hK _ _ ?_; clear hK K
              refine awp_ret ?_; simp only [bodyQ, aresult, ares, f4, List.length_map, RR, seval]
              refine Gives.pure ?_
              rw [hty]
              clear hW hB hF hty hg1
              simp_all
              all_goals (intros; omega)
            · refine awp_skip ?_; try simp only [RR]
              refine awp_seq ?_
              refine awp_seq_k fun K hK => ?_
              refine awp_region rfl ?_
              simp only [f3, hb2, hb3, nb3_b2, nb2_b3, List.length_map, RR, seval]
              repeat' ((first | refine awpG_splitN (fun h => ?_) (fun h => ?_) | refine awpG_split (fun h => ?_) (fun h => ?_)) <;> simp only [h, f2, f3, f4, f7, f8, hb2, hb3, nb3_b2, nb2_b3, List.length_map, RR, seval])
              all_goals
                refine hK _ _ ?_; clear hK K
                refine awp_if _ rfl (fun hc16 => ?_) (fun hc16 => ?_)
                · try (cases hc16; done)
                  all_goals
                    refine awp_seq_k fun K hK => ?_
                    refine awp_region rfl ?_
                    simp only [List.length_map, RR, seval]
                    refine hK _ _ ?_; clear hK K
                    refine awp_ret ?_; simp only [bodyQ, aresult, ares, f4, List.length_map, RR, seval]
                    refine Gives.pure ?_
                    rw [hty]
                    clear hW hB hF hty hg1
                    simp_all
                    all_goals (intros; omega)
                · try (cases hc16; done)
                  all_goals
                    refine awp_skip ?_; try simp only [RR]
                    refine awp_seq_k fun K hK => ?_
                    refine awp_region rfl ?_
                    simp only [List.length_map, RR, seval]
                    refine hK _ _ ?_; clear hK K
                    refine awp_ret ?_; simp only [bodyQ, aresult, ares, f4, List.length_map, RR, seval]
                    refine Gives.pure ?_
                    rw [hty]
                    clear hW hB hF hty hg1
                    simp_all
                    all_goals (intros; omega)
          · refine awp_seq ?_
            refine awp_seq_k fun K hK => ?_
            refine awp_region rfl ?_
            simp only [f7, List.length_map, RR, seval]
            refine hK _ _ ?_; clear hK K
            refine awp_name fun F3 M3 hfr hH => ?_
            have g2 := hfr 2
            have g3 := hfr 3
            have g4 := hfr 4
            have g7 := hfr 7
            have g55 := hfr 55
            have gb2 := hH b2
            have gb3 := hH b3
            try simp only [f2, f3, f4, f7, f8, hb2, hb3, nb3_b2, nb2_b3, List.length_map, RR, seval] at g2 g3 g4 g7 g55 gb2 gb3
            have f2 := g2; clear g2
            have f3 := g3; clear g3
            have f4 := g4; clear g4
            have f7 := g7; clear g7
            have f55 := g55; clear g55
            have hb2 := gb2; clear gb2
            have hb3 := gb3; clear gb3
            clear hfr hH
            refine awp_cutP (fun fr M => agree [2, 3, 4] F3 fr ∧ M b2 = M3 b2 ∧ M b3 = M3 b3 ∧ fr 55 = .bool (decide (e.kind = 7 ∨ e.kind = 8 ∨ e.kind = 9))) (fun KC19 hKC19 => ?_) ?_
            · have agC19 := agree.refl [2, 3, 4] F3
              have eC19_b2 : M3 b2 = M3 b2 := rfl
              have eC19_b3 : M3 b3 = M3 b3 := rfl
              refine awp_if _ (by first | rfl | exact f55) (fun hc19 => ?_) (fun hc19 => ?_)
              · refine awp_skip ?_; try simp only [RR]
                refine hKC19 _ _ ⟨(by repeat (first | exact agC19 | refine agree.upd rfl ?_)), (by first | exact eC19_b2 | (simp only [nb3_b2, nb2_b3, upd_app, seval]; first | done | exact eC19_b2)), (by first | exact eC19_b3 | (simp only [nb3_b2, nb2_b3, upd_app, seval]; first | done | exact eC19_b3)), ?_⟩
                first | (rw [f55, hc19]; simp [of_decide_eq_true hc19]) | (simp only [upd_app, seval]; simp_all)
              · refine awp_seq_k fun K hK => ?_
                refine awp_region rfl ?_
                simp only [f7, List.length_map, RR, seval]
                refine hK _ _ ?_; clear hK K
                refine awp_if _ (by first | rfl | exact f55) (fun hc20 => ?_) (fun hc20 => ?_)
                · refine awp_skip ?_; try simp only [RR]
                  refine hKC19 _ _ ⟨(by repeat (first | exact agC19 | refine agree.upd rfl ?_)), (by first | exact eC19_b2 | (simp only [nb3_b2, nb2_b3, upd_app, seval]; first | done | exact eC19_b2)), (by first | exact eC19_b3 | (simp only [nb3_b2, nb2_b3, upd_app, seval]; first | done | exact eC19_b3)), ?_⟩
                  first | (rw [f55, hc19]; simp [of_decide_eq_true hc19]) | (simp only [upd_app, seval]; simp_all)
                · refine awp_region rfl ?_
                  simp only [f7, List.length_map, RR, seval]
                  refine hKC19 _ _ ⟨(by repeat (first | exact agC19 | refine agree.upd rfl ?_)), (by first | exact eC19_b2 | (simp only [nb3_b2, nb2_b3, upd_app, seval]; first | done | exact eC19_b2)), (by first | exact eC19_b3 | (simp only [nb3_b2, nb2_b3, upd_app, seval]; first | done | exact eC19_b3)), ?_⟩
                  first | (rw [f55, hc19]; simp [of_decide_eq_true hc19]) | (simp only [upd_app, seval]; simp_all)
            rintro F4 M4 ⟨agx, gb2, gb3, f55⟩
            have f2 := (agx 2 rfl).trans f2
            have f3 := (agx 3 rfl).trans f3
            have f4 := (agx 4 rfl).trans f4
            have hb2 := gb2.trans hb2
            have hb3 := gb3.trans hb3
            clear agx
            clear gb2
            clear gb3
            simp only [RR, seval]
            refine awp_if _ (by first | rfl | exact f55) (fun hc21 => ?_) (fun hc21 => ?_)
            · refine awp_seq_k fun K hK => ?_
              refine awp_region rfl ?_
              simp only [f2, f3, hb2, hb3, nb3_b2, nb2_b3, List.length_map, RR, seval]
              refine awpC_pure' (hB) ?_
              simp only [f2, f3, hb2, hb3, nb3_b2, nb2_b3, List.length_map, RR, seval]
              refine hK _ _ ?_; clear hK K
              refine awp_if _ rfl (fun hc22 => ?_) (fun hc22 => ?_)
              · refine awp_seq_k fun K hK => ?_
                refine awp_region rfl ?_
                simp only [List.length_map, RR, seval]
                refine hK _ _ ?_; clear hK K
                refine awp_ret ?_; simp only [bodyQ, aresult, ares, f4, List.length_map, RR, seval]
                refine Gives.pure ?_
                rw [hty]
                clear hW hB hF hty hg1
                simp_all
                all_goals (intros; omega)
              · refine awp_skip ?_; try simp only [RR]
                refine awp_seq_k fun K hK => ?_
                refine awp_region rfl ?_
                simp only [List.length_map, RR, seval]
                refine hK _ _ ?_; clear hK K
                refine awp_ret ?_; simp only [bodyQ, aresult, ares, f4, List.length_map, RR, seval]
                refine Gives.pure ?_
                rw [hty]
                clear hW hB hF hty hg1
                simp_all
                all_goals (intros; omega)
            · refine awp_skip ?_; try simp only [RR]
              refine awp_seq_k fun K hK => ?_
              refine awp_region rfl ?_
              simp only [List.length_map, RR, seval]
              refine hK _ _ ?_; clear hK K
              refine awp_ret ?_; simp only [bodyQ, aresult, ares, f4, List.length_map, RR, seval]
              refine Gives.pure ?_
              rw [hty]
              clear hW hB hF hty hg1
              simp_all
              all_goals (intros; omega)
end Go.Proofs.Ytlokndnkpleegaa
