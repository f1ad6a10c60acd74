/- Chapter 17, the judge's: what fits; Expr, Check, Sound. -/
import Derived.Test.YtlokndnkpleegaaT17c
set_option linter.unusedSimpArgs false
set_option linter.unusedVariables false
set_option maxRecDepth 10000
namespace Go.Proofs.Ytlokndnkpleegaa
open Go.Al
theorem wdF_place (p : Pg) (s : Str) (h : knF p s = true) : ∃ (k : Nat) (g : Fu), placeN (p.funs.map Fu.name) s = some k ∧ p.funs[k]? = some g ∧ wdF p s = g.word := by
  have h1 : knF p s = ((placeN (p.funs.map Fu.name) s).bind fun k => p.funs[k]?).isSome := by simp only [knF, fnOf_place]
  have h2 : wdF p s = match (placeN (p.funs.map Fu.name) s).bind (fun k => p.funs[k]?) with | some f => f.word | none => false := by simp only [wdF, fnOf_place] <;> rfl
  cases hc : placeN (p.funs.map Fu.name) s with
  | none => rw [h1, hc] at h; cases h
  | some k =>
    have hlt := (placeN_lt _ _ _ hc).1
    rw [List.length_map] at hlt
    refine ⟨k, p.funs[k], rfl, List.getElem?_eq_getElem hlt, ?_⟩
    rw [h2, hc]
    simp [List.getElem?_eq_getElem hlt]
set_option maxHeartbeats 4000000 in
theorem Fits_con (p : Pg) (hp : p.ok) (w : Bool) (n : Nat) : ∀ l : List Sm, szS l ≤ n → okS l → knT (knF p) l = true → PCon env 61 [p.av, .bool w, .isl 5 (l.map Sm.row)] (.bool (fitT (wdF p) w l)) := by
  induction n using Nat.strongRecOn with
  | _ n ih =>
    intro l hn hok hkn
    have hfit := hok.fit
    have hWd := fun (x : List Ex) (h : okE x) => Words_con p x h.fit fun e he => Type_con p hp _ e (Nat.le_refl _) (h.all e he)
    have hBl := fun (x : List Ex) (h : okE x) => Bools_con p x h.fit fun e he => Type_con p hp _ e (Nat.le_refl _) (h.all e he)
    have hFn := fun s => Function_con p hp.ffit s
    have hwd := fun s h => wdF_place p s h
    have hff := hp.ffit
    generalize wdF p = W at *
    clear hp
    simp only [Pg.av, Pg.row, fitL] at *
    refine con_of 80 [.tmp 6] Try.func61 rfl rfl rfl rfl ?_
    refine awp_seq_k fun K hK => ?_
    refine awp_region rfl ?_
    simp only [List.length_map, RR, seval]
    refine awpN_intro fun b3 hn3 => ?_
    simp only [List.length_map, RR, seval]
    refine hK _ _ ?_; clear hK K
    refine awp_seq ?_
    refine awp_seq_k fun K hK => ?_
    refine awp_region rfl ?_
    simp only [List.length_map, RR, seval]
    refine hK _ _ ?_; clear hK K
    refine awp_name fun F1 M1 hfr hH => ?_
    have g1 := hfr 1
    have g2 := hfr 2
    have g3 := hfr 3
    have g6 := hfr 6
    have g7 := hfr 7
    have gb3 := hH b3
    try simp only [List.length_map, RR, seval] at g1 g2 g3 g6 g7 gb3
    have f1 := g1; clear g1
    have f2 := g2; clear g2
    have f3 := g3; clear g3
    have f6 := g6; clear g6
    have f7 := g7; clear g7
    have hb3 := gb3; clear gb3
    clear hfr hH
    refine awp_block ?_
    refine awp_each [1, 2, 3] (l.length) (fun k fr M => fr 7 = .int .i64 (k : Nat) ∧ M b3 = M1 b3 ∧ fitT W w l = fitT W w (l.drop k) ∧ knT (knF p) (l.drop k) = true) ⟨f7, rfl, by rw [List.drop_zero], by rw [List.drop_zero]; exact hkn⟩ ?_
    rintro k F2 M2 hk0 ⟨fx, gb3, hall, hkd⟩ agx K0 hK0
    have f1 := (agx 1 rfl).trans f1
    have f2 := (agx 2 rfl).trans f2
    have f3 := (agx 3 rfl).trans f3
    have f7 := fx; clear fx
    have hb3 := gb3.trans hb3
    have ag0 := agree.refl [1, 2, 3] F2
    have e0_b3 := gb3; clear gb3
    clear agx
    refine awp_seq ?_
    refine awp_seq_k fun K hK => ?_
    refine awp_region rfl ?_
    simp only [f2, f7, hb3, List.length_map, RR, seval]
    refine hK _ _ ?_; clear hK K
    refine awp_if _ rfl (fun hc => ?_) (fun hc => ?_)
    · have hlt0 : k < l.length := by have := of_decide_eq_true hc; omega
      clear hc
      have hg := getS (List.getElem?_eq_getElem hlt0)
      have hm := List.getElem_mem hlt0
      have hoe := hok.all _ hm
      have hsz := szS_mem hm
      rw [List.drop_eq_getElem_cons hlt0, fitT_cons, fitM_eq] at hall
      rw [List.drop_eq_getElem_cons hlt0, knT_cons, knM_eq] at hkd
      generalize l[k] = e at hg hall hkd hoe hsz
      have hz := e.sz_eq
      simp only [Bool.and_eq_true] at hkd
      have hE1 := hWd e.es hoe.es
      have hE2 := hBl e.es hoe.es
      have hT := ih (szS e.thn) (by omega) e.thn (Nat.le_refl _) hoe.thn hkd.1.1.2
      have hU := ih (szS e.els) (by omega) e.els (Nat.le_refl _) hoe.els hkd.1.2
      have hf := hFn e.name
      have z1 : decide (e.kind = 6) = true → ∃ (k : Nat) (g : Fu), placeN (p.funs.map Fu.name) e.name = some k ∧ p.funs[k]? = some g ∧ W e.name = g.word := fun h => hwd _ (by have := hkd.1.1.1.1; rw [h] at this; simpa using this)
      obtain ⟨pl, g, y1, y2, y3⟩ : ∃ (pl : Nat) (g : Fu), (decide (e.kind = 6) = true → optI (placeN (p.funs.map Fu.name) e.name) = (pl : Int)) ∧ (decide (e.kind = 6) = true → (p.funs.map Fu.row)[pl]? = some [.str g.name, .isl 1 (g.params.map strRow), .isl 1 (g.locs.map strRow), .bool g.word, .isl 5 (g.body.map Sm.row)]) ∧ (decide (e.kind = 6) && W e.name) = (decide (e.kind = 6) && g.word) := by
        cases h6 : decide (e.kind = 6) with
        | false => exact ⟨0, ⟨[], [], [], false, []⟩, (fun h => by cases h), (fun h => by cases h), rfl⟩
        | true =>
          obtain ⟨k, g, q1, q2, q3⟩ := z1 h6
          exact ⟨k, g, (fun _ => by rw [q1]; rfl), (fun _ => getF q2), by rw [q3]⟩
      rw [y3] at hall
      have hwant : wantS e.kind = if decide (e.kind = 4 ∨ e.kind = 5) = true then 2 else 1 := by simp only [wantS, decide_eq_true_eq]
      rw [hwant] at hall
      generalize fitT W w e.thn = K4 at hall hT
      generalize fitT W w e.els = K5 at hall hU
      generalize g.word = WG at hall y2
      have hlen : decide ((0 : Int) < (e.es.length : Int)) = decide (0 < e.es.length) := by rw [Bool.eq_iff_iff]; simp only [decide_eq_true_eq]; omega
      obtain ⟨K7, z7⟩ : ∃ b, decide (e.kind = 7) = b := ⟨_, rfl⟩
      obtain ⟨K8, z8⟩ : ∃ b, decide (0 < e.es.length) = b := ⟨_, rfl⟩
      obtain ⟨K6, z6⟩ : ∃ b, decide (e.kind = 6) = b := ⟨_, rfl⟩
      rw [z6] at y1 y2
      rw [z6, z7, z8] at hall
      clear ih hFn hoe hok hWd hBl hwd z1 y3
      cases K6
      all_goals
        refine awp_skip ?_; try simp only [RR]
        refine awp_seq ?_
        refine awp_block ?_
        refine awp_seq_k fun K hK => ?_
        refine awp_region rfl ?_
        simp only [f2, f7, hb3, List.length_map, hg, hlen, z6, z7, z8, y1, y2, RR, seval]
        refine awpN_intro fun b8 hn8 => ?_
        have nb8_b3 : b8 ≠ b3 := fun e => by rw [e] at hn8; simp only [hb3, RR, seval, reduceCtorEq] at hn8
        have nb3_b8 : b3 ≠ b8 := fun e => nb8_b3 e.symm
        simp only [f2, f7, hb3, nb8_b3, nb3_b8, List.length_map, hg, hlen, z6, z7, z8, y1, y2, RR, seval]
        refine hK _ _ ?_; clear hK K
        refine awp_seq ?_
        refine awp_seq_k fun K hK => ?_
        refine awp_region rfl ?_
        simp only [hb3, nb8_b3, nb3_b8, List.length_map, hg, hlen, z6, z7, z8, y1, y2, RR, seval]
        repeat' ((first | refine awpG_splitN (fun h => ?_) (fun h => ?_) | refine awpG_split (fun h => ?_) (fun h => ?_)) <;> simp only [h, f1, f2, f3, f7, hb3, nb8_b3, nb3_b8, List.length_map, hg, hlen, z6, z7, z8, y1, y2, RR, seval])
        all_goals
          refine hK _ _ ?_; clear hK K
          refine awp_name fun F3 M3 hfr hH => ?_
          have g1 := hfr 1
          have g2 := hfr 2
          have g3 := hfr 3
          have g6 := hfr 6
          have g7 := hfr 7
          have g8 := hfr 8
          have g26 := hfr 26
          have gb3 := hH b3
          have gb8 := hH b8
          try simp only [f1, f2, f3, f7, hb3, nb8_b3, nb3_b8, List.length_map, hg, hlen, z6, z7, z8, y1, y2, RR, seval] at g1 g2 g3 g6 g7 g8 g26 gb3 gb8
          have ag0 : agree [1, 2, 3] F2 F3 := agree.same hfr (by repeat (first | exact ag0 | refine agree.upd rfl ?_))
          have e0_b3 := (hH b3).trans (by first | exact e0_b3 | (simp only [nb8_b3, nb3_b8, upd_app, seval]; first | done | exact e0_b3))
          have f1 := g1; clear g1
          have f2 := g2; clear g2
          have f3 := g3; clear g3
          have f6 := g6; clear g6
          have f7 := g7; clear g7
          have f8 := g8; clear g8
          have f26 := g26; clear g26
          have hb3 := gb3; clear gb3
          have hb8 := gb8; clear gb8
          clear hfr hH
          refine awp_cutP (fun fr M => agree [1, 2, 3, 7, 8] F3 fr ∧ M b3 = M3 b3 ∧ M b8 = M3 b8 ∧ (allT W e.es (if decide (e.kind = 4 ∨ e.kind = 5) = true then 2 else 1) = true)) (fun KC5 hKC5 => ?_) ?_
          · have agC5 := agree.refl [1, 2, 3, 7, 8] F3
            have eC5_b3 : M3 b3 = M3 b3 := rfl
            have eC5_b8 : M3 b8 = M3 b8 := rfl
            refine awp_if _ (by first | rfl | exact f26) (fun hc5 => ?_) (fun hc5 => ?_)
            · try (cases hc5; done)
              all_goals
                have hA2 : (if decide (e.kind = 4 ∨ e.kind = 5) = true then (2 : Int) else 1) = 2 := by rw [if_pos]; first | simp [of_decide_eq_true h] | simp [of_decide_eq_true hc5]
                rw [hA2] at hall
                refine awp_seq_k fun K hK => ?_
                refine awp_region rfl ?_
                simp only [f3, f8, hb3, hb8, nb8_b3, nb3_b8, List.length_map, hg, hlen, z6, z7, z8, y1, y2, RR, seval]
                refine awpC_pure' (hE2) ?_
                simp only [f3, f8, hb3, hb8, nb8_b3, nb3_b8, List.length_map, hg, hlen, z6, z7, z8, y1, y2, RR, seval]
                refine hK _ _ ?_; clear hK K
                refine awp_if _ rfl (fun hc6 => ?_) (fun hc6 => ?_)
                · refine awp_seq_k fun K hK => ?_
                  refine awp_region rfl ?_
                  simp only [List.length_map, hg, hlen, z6, z7, z8, y1, y2, RR, seval]
                  refine hK _ _ ?_; clear hK K
                  refine awp_ret ?_; simp only [bodyQ, aresult, ares, f6, List.length_map, hg, hlen, z6, z7, z8, y1, y2, RR, seval]
                  refine Gives.pure ?_
                  rw [hall, show allT W e.es 2 = false by simpa using hc6]
                  simp
                · refine awp_skip ?_; try simp only [RR]
                  refine hKC5 _ _ ⟨(by repeat (first | exact agC5 | refine agree.upd rfl ?_)), (by first | exact eC5_b3 | (simp only [nb8_b3, nb3_b8, upd_app, seval]; first | done | exact eC5_b3)), (by first | exact eC5_b8 | (simp only [nb8_b3, nb3_b8, upd_app, seval]; first | done | exact eC5_b8)), by rw [hA2]; first | simpa using hc6 | simpa using hc8⟩
            · try (cases hc5; done)
              all_goals
                have hA2 : (if decide (e.kind = 4 ∨ e.kind = 5) = true then (2 : Int) else 1) = 1 := by rw [if_neg]; simp [of_decide_eq_false h, of_decide_eq_false hc5]
                rw [hA2] at hall
                refine awp_seq_k fun K hK => ?_
                refine awp_region rfl ?_
                simp only [f3, f8, hb3, hb8, nb8_b3, nb3_b8, List.length_map, hg, hlen, z6, z7, z8, y1, y2, RR, seval]
                refine awpC_pure' (hE1) ?_
                simp only [f3, f8, hb3, hb8, nb8_b3, nb3_b8, List.length_map, hg, hlen, z6, z7, z8, y1, y2, RR, seval]
                refine hK _ _ ?_; clear hK K
                refine awp_if _ rfl (fun hc8 => ?_) (fun hc8 => ?_)
                · refine awp_seq_k fun K hK => ?_
                  refine awp_region rfl ?_
                  simp only [List.length_map, hg, hlen, z6, z7, z8, y1, y2, RR, seval]
                  refine hK _ _ ?_; clear hK K
                  refine awp_ret ?_; simp only [bodyQ, aresult, ares, f6, List.length_map, hg, hlen, z6, z7, z8, y1, y2, RR, seval]
                  refine Gives.pure ?_
                  rw [hall, show allT W e.es 1 = false by simpa using hc8]
                  simp
                · refine awp_skip ?_; try simp only [RR]
                  refine hKC5 _ _ ⟨(by repeat (first | exact agC5 | refine agree.upd rfl ?_)), (by first | exact eC5_b3 | (simp only [nb8_b3, nb3_b8, upd_app, seval]; first | done | exact eC5_b3)), (by first | exact eC5_b8 | (simp only [nb8_b3, nb3_b8, upd_app, seval]; first | done | exact eC5_b8)), by rw [hA2]; first | simpa using hc6 | simpa using hc8⟩
          rintro F4 M4 ⟨agx, gb3, gb8, hA⟩
          have f1 := (agx 1 rfl).trans f1
          have f2 := (agx 2 rfl).trans f2
          have f3 := (agx 3 rfl).trans f3
          have f7 := (agx 7 rfl).trans f7
          have f8 := (agx 8 rfl).trans f8
          have hb3 := gb3.trans hb3
          have hb8 := gb8.trans hb8
          have ag0 : agree [1, 2, 3] F2 F4 := agree.sub agx rfl ag0
          have e0_b3 := gb3.trans e0_b3
          clear agx
          clear gb3
          clear gb8
          simp only [RR, seval]
          rw [hA, Bool.true_and] at hall
          clear hA
          refine awp_seq ?_
          refine awp_seq_k fun K hK => ?_
          refine awp_region_draw2 (fun x => x ≠ b3 ∧ x ≠ b8) [(0, 3), (1, 1), (2, 3), (3, 3), (4, 3), (5, 0), (6, 1), (7, 3), (8, 1), (9, 1), (10, 3), (11, 3), (12, 1), (13, 3), (14, 3), (15, 3), (16, 1), (17, 3), (18, 3), (19, 3), (20, 1), (21, 3), (22, 3), (23, 3), (24, 3), (25, 3), (26, 3), (27, 3), (28, 3)] [] draws (by kernel_rfl) rfl rfl ?_
          simp only [emitF, markOf, EM, f1, f3, f8, hb3, hb8, nb8_b3, nb3_b8, List.length_map, hg, hlen, z6, z7, z8, y1, y2, RR, seval]
          all_goals try ((first | refine awpG_splitN (fun h => ?_) (fun h => ?_) | refine awpG_split (fun h => ?_) (fun h => ?_)) <;> simp only [h, emitF, markOf, EM, f1, f2, f3, f7, f8, hb3, hb8, nb8_b3, nb3_b8, List.length_map, hg, hlen, z6, z7, z8, y1, y2, RR, seval])
          all_goals try (refine awpC_pure' (hf) ?_; simp only [emitF, markOf, EM, f1, f3, f8, hb3, hb8, nb8_b3, nb3_b8, List.length_map, hg, hlen, z6, z7, z8, y1, y2, RR, seval])
          all_goals try ((first | refine awpG_splitN (fun h => ?_) (fun h => ?_) | refine awpG_split (fun h => ?_) (fun h => ?_)) <;> simp only [h, emitF, markOf, EM, f1, f2, f3, f7, f8, hb3, hb8, nb8_b3, nb3_b8, List.length_map, hg, hlen, z6, z7, z8, y1, y2, RR, seval])
          all_goals try ((first | refine awpG_splitN (fun h => ?_) (fun h => ?_) | refine awpG_split (fun h => ?_) (fun h => ?_)) <;> simp only [h, emitF, markOf, EM, f1, f2, f3, f7, f8, hb3, hb8, nb8_b3, nb3_b8, List.length_map, hg, hlen, z6, z7, z8, y1, y2, RR, seval])
          all_goals try ((first | refine awpG_splitN (fun h => ?_) (fun h => ?_) | refine awpG_split (fun h => ?_) (fun h => ?_)) <;> simp only [h, emitF, markOf, EM, f1, f2, f3, f7, f8, hb3, hb8, nb8_b3, nb3_b8, List.length_map, hg, hlen, z6, z7, z8, y1, y2, RR, seval])
          all_goals try ((first | refine awpG_splitN (fun h => ?_) (fun h => ?_) | refine awpG_split (fun h => ?_) (fun h => ?_)) <;> simp only [h, emitF, markOf, EM, f1, f2, f3, f7, f8, hb3, hb8, nb8_b3, nb3_b8, List.length_map, hg, hlen, z6, z7, z8, y1, y2, RR, seval])
          all_goals try ((first | refine awpG_splitN (fun h => ?_) (fun h => ?_) | refine awpG_split (fun h => ?_) (fun h => ?_)) <;> simp only [h, emitF, markOf, EM, f1, f2, f3, f7, f8, hb3, hb8, nb8_b3, nb3_b8, List.length_map, hg, hlen, z6, z7, z8, y1, y2, RR, seval])
          all_goals
            refine hK _ _ ?_; clear hK K
            refine awp_if _ rfl (fun hc10 => ?_) (fun hc10 => ?_)
            · try (cases hc10; done)
              all_goals
                refine awp_seq_k fun K hK => ?_
                refine awp_region rfl ?_
                simp only [List.length_map, hg, hlen, z6, z7, z8, y1, y2, RR, seval]
                refine hK _ _ ?_; clear hK K
                refine awp_ret ?_; simp only [bodyQ, aresult, ares, List.length_map, hg, hlen, z6, z7, z8, y1, y2, RR, seval]
                refine Gives.pure ?_
                rw [hall]
                clear hT hU hf y1 y2 hE1 hE2
                simp_all
            · try (cases hc10; done)
              all_goals
                refine awp_skip ?_; try simp only [RR]
                refine awp_seq_k fun K hK => ?_
                refine awp_region rfl ?_
                simp only [f1, f3, f8, hb3, hb8, nb8_b3, nb3_b8, List.length_map, hg, hlen, z6, z7, z8, y1, y2, RR, seval]
                all_goals try (refine awpC_pure' (hT) ?_; simp only [f1, f3, f8, hb3, hb8, nb8_b3, nb3_b8, List.length_map, hg, hlen, z6, z7, z8, y1, y2, RR, seval])
                all_goals try ((first | refine awpG_splitN (fun h => ?_) (fun h => ?_) | refine awpG_split (fun h => ?_) (fun h => ?_)) <;> simp only [h, f1, f2, f3, f7, f8, hb3, hb8, nb8_b3, nb3_b8, List.length_map, hg, hlen, z6, z7, z8, y1, y2, RR, seval])
                all_goals try (refine awpC_pure' (hU) ?_; simp only [f1, f3, f8, hb3, hb8, nb8_b3, nb3_b8, List.length_map, hg, hlen, z6, z7, z8, y1, y2, RR, seval])
                all_goals
                  refine hK _ _ ?_; clear hK K
                  refine awp_if _ rfl (fun hc12 => ?_) (fun hc12 => ?_)
                  · try (cases hc12; done)
                    all_goals
                      refine awp_seq_k fun K hK => ?_
                      refine awp_region rfl ?_
                      simp only [List.length_map, hg, hlen, z6, z7, z8, y1, y2, RR, seval]
                      refine hK _ _ ?_; clear hK K
                      refine awp_ret ?_; simp only [bodyQ, aresult, ares, List.length_map, hg, hlen, z6, z7, z8, y1, y2, RR, seval]
                      refine Gives.pure ?_
                      rw [hall]
                      clear hT hU hf y1 y2 hE1 hE2
                      simp_all
                  · try (cases hc12; done)
                    all_goals
                      refine awp_skip ?_; try simp only [RR]
                      refine awp_region rfl ?_
                      simp only [f7, List.length_map, hg, hlen, z6, z7, z8, y1, y2, RR, seval]
                      try rw [IntWalk.i64_in _ (by omega)]
                      refine hK0 _ _ hlt0 ⟨by first | rfl | (simp only [upd_app, seval]; rfl), (by first | exact e0_b3 | (simp only [nb8_b3, nb3_b8, upd_app, seval]; first | done | exact e0_b3)), (by rw [hall]; clear hT hU hf y1 y2 hE1 hE2; simp_all), hkd.2⟩ (by repeat (first | exact ag0 | refine agree.upd rfl ?_))
    · have hkn0 : k = l.length := by have := of_decide_eq_false hc; omega
      clear hc
      refine awp_exit ?_; simp only [RR, seval]
      refine awp_seq_k fun K hK => ?_
      refine awp_region rfl ?_
      simp only [List.length_map, RR, seval]
      refine hK _ _ ?_; clear hK K
      refine awp_ret ?_; simp only [bodyQ, aresult, ares, List.length_map, RR, seval]
      refine Gives.pure ?_
      rw [hall, hkn0, List.drop_length, fitT_nil]
end Go.Proofs.Ytlokndnkpleegaa
