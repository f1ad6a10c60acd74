/- Chapter 17, the judge's: what is known; what fits; Expr, Check, Sound. -/
import Derived.Test.YtlokndnkpleegaaT17b
set_option linter.unusedSimpArgs false
set_option linter.unusedVariables false
set_option maxRecDepth 10000
namespace Go.Proofs.Ytlokndnkpleegaa
open Go.Al
theorem knF_place (p : Pg) (s : Str) : decide (optI (placeN (p.funs.map Fu.name) s) < 0) = !knF p s := by
  have h : knF p s = ((placeN (p.funs.map Fu.name) s).bind fun k => p.funs[k]?).isSome := by simp only [knF, fnOf_place]
  cases hc : placeN (p.funs.map Fu.name) s with
  | none => rw [h, hc]; rfl
  | some k =>
    have hlt := (placeN_lt _ _ _ hc).1
    rw [List.length_map] at hlt
    rw [h, hc]
    simp [optI, List.getElem?_eq_getElem hlt]
    exact decide_eq_false (by omega)
theorem Known_con (p : Pg) (hp : p.ok) (n : Nat) : ∀ l : List Ex, szE l ≤ n → okE l → PCon env 89 [p.av, .isl 5 (l.map Ex.row)] (.bool (knL (knF p) l)) := by
  induction n using Nat.strongRecOn with
  | _ n ih =>
    intro l hn hok
    have hfit := hok.fit
    have hFn := fun s => Function_con p hp.ffit s
    have hkp := fun s => knF_place p s
    generalize knF p = K at *
    clear hp
    simp only [Pg.av, Pg.row, fitL] at *
    refine con_of 38 [.tmp 4] Try.func89 rfl rfl rfl rfl ?_
    refine awp_seq_k fun K hK => ?_
    refine awp_region rfl ?_
    simp only [List.length_map, RR, seval]
    refine awpN_intro fun b2 hn2 => ?_
    simp only [List.length_map, RR, seval]
    refine hK _ _ ?_; clear hK K
    refine awp_seq ?_
    refine awp_seq_k fun K hK => ?_
    refine awp_region rfl ?_
    simp only [List.length_map, RR, seval]
    refine hK _ _ ?_; clear hK K
    refine awp_name fun F1 M1 hfr hH => ?_
    have g1 := hfr 1
    have g2 := hfr 2
    have g4 := hfr 4
    have g5 := hfr 5
    have gb2 := hH b2
    try simp only [List.length_map, RR, seval] at g1 g2 g4 g5 gb2
    have f1 := g1; clear g1
    have f2 := g2; clear g2
    have f4 := g4; clear g4
    have f5 := g5; clear g5
    have hb2 := gb2; clear gb2
    clear hfr hH
    refine awp_block ?_
    refine awp_each [1, 2] (l.length) (fun k fr M => fr 5 = .int .i64 (k : Nat) ∧ M b2 = M1 b2 ∧ knL K l = knL K (l.drop k)) ⟨f5, rfl, by rw [List.drop_zero]⟩ ?_
    rintro k F2 M2 hk0 ⟨fx, gb2, hall⟩ agx K0 hK0
    have f1 := (agx 1 rfl).trans f1
    have f2 := (agx 2 rfl).trans f2
    have f5 := fx; clear fx
    have hb2 := gb2.trans hb2
    have ag0 := agree.refl [1, 2] F2
    have e0_b2 := gb2; clear gb2
    clear agx
    refine awp_seq ?_
    refine awp_seq_k fun K hK => ?_
    refine awp_region rfl ?_
    simp only [f1, f5, hb2, List.length_map, RR, seval]
    refine hK _ _ ?_; clear hK K
    refine awp_if _ rfl (fun hc => ?_) (fun hc => ?_)
    · have hlt0 : k < l.length := by have := of_decide_eq_true hc; omega
      clear hc
      have hg := getE (List.getElem?_eq_getElem hlt0)
      have hm := List.getElem_mem hlt0
      have hke := (hok.all _ hm).kids
      have hsz := szE_mem hm
      rw [List.drop_eq_getElem_cons hlt0, knL_cons, knE_eq] at hall
      generalize l[k] = e at hg hall hke hsz
      have hz := e.sz_eq
      have hi := ih (szE e.kids) (by omega) e.kids (Nat.le_refl _) hke
      have hf := hFn e.name
      have z1 := hkp e.name
      generalize K e.name = K1 at hall z1
      generalize knL K e.kids = K2 at hall hi
      generalize optI (placeN (p.funs.map Fu.name) e.name) = pl at hf z1
      obtain ⟨K3, z3⟩ : ∃ b, decide (e.kind = 4) = b := ⟨_, rfl⟩
      rw [z3] at hall
      clear ih hFn hkp hke hok
      cases K1 <;> cases K2 <;> cases K3
      all_goals
        refine awp_skip ?_; try simp only [RR]
        refine awp_seq ?_
        refine awp_block ?_
        refine awp_seq_k fun K hK => ?_
        refine awp_region_draw2 (fun x => x ≠ b2) [(0, 3), (1, 3), (2, 3), (3, 3), (4, 1), (5, 3), (6, 3), (7, 1), (8, 3), (9, 3), (10, 3), (11, 3), (12, 1), (13, 1), (14, 3), (15, 3), (16, 3), (17, 1), (18, 3), (19, 3), (20, 3), (21, 3), (22, 1), (23, 1), (24, 3), (25, 3)] [] draws (by kernel_rfl) rfl rfl ?_
        simp only [emitF, markOf, EM, f1, f2, f5, hb2, List.length_map, hg, z1, z3, RR, seval]
        all_goals try ((first | refine awpG_splitN (fun h => ?_) (fun h => ?_) | refine awpG_split (fun h => ?_) (fun h => ?_)) <;> simp only [h, emitF, markOf, EM, f1, f2, f5, hb2, List.length_map, hg, z1, z3, RR, seval])
        all_goals try (refine awpC_pure' (hf) ?_; simp only [emitF, markOf, EM, f1, f2, f5, hb2, List.length_map, hg, z1, z3, RR, seval])
        all_goals try ((first | refine awpG_splitN (fun h => ?_) (fun h => ?_) | refine awpG_split (fun h => ?_) (fun h => ?_)) <;> simp only [h, emitF, markOf, EM, f1, f2, f5, hb2, List.length_map, hg, z1, z3, RR, seval])
        all_goals try (refine awpC_pure' (hi) ?_; simp only [emitF, markOf, EM, f1, f2, f5, hb2, List.length_map, hg, z1, z3, RR, seval])
        all_goals
          refine hK _ _ ?_; clear hK K
          refine awp_if _ rfl (fun hc4 => ?_) (fun hc4 => ?_)
          · try (cases hc4; done)
            all_goals
              refine awp_seq_k fun K hK => ?_
              refine awp_region rfl ?_
              simp only [List.length_map, hg, z1, z3, RR, seval]
              refine hK _ _ ?_; clear hK K
              refine awp_ret ?_; simp only [bodyQ, aresult, ares, List.length_map, hg, z1, z3, RR, seval]
              refine Gives.pure ?_
              rw [hall]
              rfl
          · try (cases hc4; done)
            all_goals
              refine awp_skip ?_; try simp only [RR]
              refine awp_region rfl ?_
              simp only [f5, List.length_map, hg, z1, z3, RR, seval]
              try rw [IntWalk.i64_in _ (by omega)]
              refine hK0 _ _ hlt0 ⟨by first | rfl | (simp only [upd_app, seval]; rfl), (by first | exact e0_b2 | (simp only [upd_app, seval]; first | done | exact e0_b2)), by rw [hall]; rfl⟩ (by repeat (first | exact ag0 | refine agree.upd rfl ?_))
    · have hkn0 : k = l.length := by have := of_decide_eq_false hc; omega
      clear hc
      refine awp_exit ?_; simp only [RR, seval]
      refine awp_seq_k fun K hK => ?_
      refine awp_region rfl ?_
      simp only [List.length_map, RR, seval]
      refine hK _ _ ?_; clear hK K
      refine awp_ret ?_; simp only [bodyQ, aresult, ares, List.length_map, RR, seval]
      refine Gives.pure ?_
      rw [hall, hkn0, List.drop_length, knL_nil]
theorem KnownStmts_con (p : Pg) (hp : p.ok) (n : Nat) : ∀ l : List Sm, szS l ≤ n → okS l → PCon env 60 [p.av, .isl 5 (l.map Sm.row)] (.bool (knT (knF p) l)) := by
  induction n using Nat.strongRecOn with
  | _ n ih =>
    intro l hn hok
    have hfit := hok.fit
    have hFn := fun s => Function_con p hp.ffit s
    have hKn := fun (x : List Ex) (h : okE x) => Known_con p hp _ x (Nat.le_refl _) h
    have hkp := fun s => knF_place p s
    generalize knF p = K at *
    clear hp
    simp only [Pg.av, Pg.row, fitL] at *
    refine con_of 58 [.tmp 4] Try.func60 rfl rfl rfl rfl ?_
    refine awp_seq_k fun K hK => ?_
    refine awp_region rfl ?_
    simp only [List.length_map, RR, seval]
    refine awpN_intro fun b2 hn2 => ?_
    simp only [List.length_map, RR, seval]
    refine hK _ _ ?_; clear hK K
    refine awp_seq ?_
    refine awp_seq_k fun K hK => ?_
    refine awp_region rfl ?_
    simp only [List.length_map, RR, seval]
    refine hK _ _ ?_; clear hK K
    refine awp_name fun F1 M1 hfr hH => ?_
    have g1 := hfr 1
    have g2 := hfr 2
    have g4 := hfr 4
    have g5 := hfr 5
    have gb2 := hH b2
    try simp only [List.length_map, RR, seval] at g1 g2 g4 g5 gb2
    have f1 := g1; clear g1
    have f2 := g2; clear g2
    have f4 := g4; clear g4
    have f5 := g5; clear g5
    have hb2 := gb2; clear gb2
    clear hfr hH
    refine awp_block ?_
    refine awp_each [1, 2] (l.length) (fun k fr M => fr 5 = .int .i64 (k : Nat) ∧ M b2 = M1 b2 ∧ knT K l = knT K (l.drop k)) ⟨f5, rfl, by rw [List.drop_zero]⟩ ?_
    rintro k F2 M2 hk0 ⟨fx, gb2, hall⟩ agx K0 hK0
    have f1 := (agx 1 rfl).trans f1
    have f2 := (agx 2 rfl).trans f2
    have f5 := fx; clear fx
    have hb2 := gb2.trans hb2
    have ag0 := agree.refl [1, 2] F2
    have e0_b2 := gb2; clear gb2
    clear agx
    refine awp_seq ?_
    refine awp_seq_k fun K hK => ?_
    refine awp_region rfl ?_
    simp only [f1, f5, hb2, List.length_map, RR, seval]
    refine hK _ _ ?_; clear hK K
    refine awp_if _ rfl (fun hc => ?_) (fun hc => ?_)
    · have hlt0 : k < l.length := by have := of_decide_eq_true hc; omega
      clear hc
      have hg := getS (List.getElem?_eq_getElem hlt0)
      have hm := List.getElem_mem hlt0
      have hoe := hok.all _ hm
      have hsz := szS_mem hm
      rw [List.drop_eq_getElem_cons hlt0, knT_cons, knM_eq] at hall
      generalize l[k] = e at hg hall hoe hsz
      have hz := e.sz_eq
      have hE := hKn e.es hoe.es
      have hT := ih (szS e.thn) (by omega) e.thn (Nat.le_refl _) hoe.thn
      have hU := ih (szS e.els) (by omega) e.els (Nat.le_refl _) hoe.els
      have hf := hFn e.name
      have z1 := hkp e.name
      generalize K e.name = K1 at hall z1
      generalize knL K e.es = K2 at hall hE
      generalize knT K e.thn = K4 at hall hT
      generalize knT K e.els = K5 at hall hU
      generalize optI (placeN (p.funs.map Fu.name) e.name) = pl at hf z1
      obtain ⟨K3, z3⟩ : ∃ b, decide (e.kind = 6) = b := ⟨_, rfl⟩
      rw [z3] at hall
      clear ih hFn hkp hoe hok hKn
      refine awp_skip ?_; try simp only [RR]
      refine awp_seq ?_
      refine awp_block ?_
      refine awp_seq_k fun K hK => ?_
      refine awp_region_draw2 (fun x => x ≠ b2) [(0, 3), (1, 3), (2, 3), (3, 3), (4, 1), (5, 3), (6, 3), (7, 1), (8, 3), (9, 3), (10, 3), (11, 3), (12, 1), (13, 1), (14, 3), (15, 3), (16, 3), (17, 1), (18, 3), (19, 3), (20, 3), (21, 3), (22, 1), (23, 1), (24, 3), (25, 3), (26, 3), (27, 1), (28, 3), (29, 3), (30, 3), (31, 3), (32, 1), (33, 1), (34, 3), (35, 3), (36, 3), (37, 1), (38, 3), (39, 3), (40, 3), (41, 3), (42, 1), (43, 1), (44, 3), (45, 3)] [] draws (by kernel_rfl) rfl rfl ?_
      simp only [emitF, markOf, EM, f1, f2, f5, hb2, List.length_map, hg, z1, z3, RR, seval]
      all_goals try ((first | refine awpG_splitN (fun h => ?_) (fun h => ?_) | refine awpG_split (fun h => ?_) (fun h => ?_)) <;> simp only [h, emitF, markOf, EM, f1, f2, f5, hb2, List.length_map, hg, z1, z3, RR, seval])
      all_goals try (refine awpC_pure' (hf) ?_; simp only [emitF, markOf, EM, f1, f2, f5, hb2, List.length_map, hg, z1, z3, RR, seval])
      all_goals try ((first | refine awpG_splitN (fun h => ?_) (fun h => ?_) | refine awpG_split (fun h => ?_) (fun h => ?_)) <;> simp only [h, emitF, markOf, EM, f1, f2, f5, hb2, List.length_map, hg, z1, z3, RR, seval])
      all_goals try (refine awpC_pure' (hE) ?_; simp only [emitF, markOf, EM, f1, f2, f5, hb2, List.length_map, hg, z1, z3, RR, seval])
      all_goals try ((first | refine awpG_splitN (fun h => ?_) (fun h => ?_) | refine awpG_split (fun h => ?_) (fun h => ?_)) <;> simp only [h, emitF, markOf, EM, f1, f2, f5, hb2, List.length_map, hg, z1, z3, RR, seval])
      all_goals try (refine awpC_pure' (hT) ?_; simp only [emitF, markOf, EM, f1, f2, f5, hb2, List.length_map, hg, z1, z3, RR, seval])
      all_goals try ((first | refine awpG_splitN (fun h => ?_) (fun h => ?_) | refine awpG_split (fun h => ?_) (fun h => ?_)) <;> simp only [h, emitF, markOf, EM, f1, f2, f5, hb2, List.length_map, hg, z1, z3, RR, seval])
      all_goals try (refine awpC_pure' (hU) ?_; simp only [emitF, markOf, EM, f1, f2, f5, hb2, List.length_map, hg, z1, z3, RR, seval])
      all_goals
        refine hK _ _ ?_; clear hK K
        refine awp_if _ rfl (fun hc4 => ?_) (fun hc4 => ?_)
        · try (cases hc4; done)
          all_goals
            refine awp_seq_k fun K hK => ?_
            refine awp_region rfl ?_
            simp only [List.length_map, hg, z1, z3, RR, seval]
            refine hK _ _ ?_; clear hK K
            refine awp_ret ?_; simp only [bodyQ, aresult, ares, List.length_map, hg, z1, z3, RR, seval]
            refine Gives.pure ?_
            rw [hall]
            clear hE hT hU hf z1 z3
            simp_all
        · try (cases hc4; done)
          all_goals
            refine awp_skip ?_; try simp only [RR]
            refine awp_region rfl ?_
            simp only [f5, List.length_map, hg, z1, z3, RR, seval]
            try rw [IntWalk.i64_in _ (by omega)]
            refine hK0 _ _ hlt0 ⟨by first | rfl | (simp only [upd_app, seval]; rfl), (by first | exact e0_b2 | (simp only [upd_app, seval]; first | done | exact e0_b2)), by rw [hall]; clear hE hT hU hf z1 z3; simp_all⟩ (by repeat (first | exact ag0 | refine agree.upd rfl ?_))
    · have hkn0 : k = l.length := by have := of_decide_eq_false hc; omega
      clear hc
      refine awp_exit ?_; simp only [RR, seval]
      refine awp_seq_k fun K hK => ?_
      refine awp_region rfl ?_
      simp only [List.length_map, RR, seval]
      refine hK _ _ ?_; clear hK K
      refine awp_ret ?_; simp only [bodyQ, aresult, ares, List.length_map, RR, seval]
      refine Gives.pure ?_
      rw [hall, hkn0, List.drop_length, knT_nil]
end Go.Proofs.Ytlokndnkpleegaa
