/- Chapter 14: are statements and programs alike? Both sides. -/
import Derived.Test.YtgcncdjnipfolaaDoorGSme
set_option linter.unusedSimpArgs false
set_option linter.unusedVariables false
set_option maxRecDepth 10000
namespace Go.Proofs.YtgcncdjnipfolaaDoor
open Go.Al
theorem apc_nil {α : Type} (m : List α) : List.append [] m = m := rfl
theorem apc_cons {α : Type} (a : α) (l m : List α) : List.append (a :: l) m = a :: List.append l m := rfl
set_option maxHeartbeats 4000000 in
theorem sameStmts_con (n : Nat) : ∀ (l m : List Sm), szS l ≤ n → okS l → okS m → PCon env 34 [.isl 5 (l.map Sm.row), .isl 5 (m.map Sm.row)] (.bool (eqB l m)) := by
  induction n using Nat.strongRecOn with
  | _ n ih =>
    intro l m hn hol hom
    have hfl : l.length ≤ 9223372036854775807 := hol.fit
    refine con_of 59 [.tmp 4] Tryd.func34 rfl rfl rfl rfl ?_
    refine awp_seq_k fun K hK => ?_
    refine awp_region rfl ?_
    simp only [List.length_map, RR, seval]
    refine hK _ _ ?_; clear hK K
    refine awp_seq ?_
    refine awp_seq_k fun K hK => ?_
    refine awp_region rfl ?_
    simp only [List.length_map, RR, seval]
    refine hK _ _ ?_; clear hK K
    refine awp_if _ rfl (fun hc1 => ?_) (fun hc1 => ?_)
    · refine awp_seq_k fun K hK => ?_
      refine awp_region rfl ?_
      simp only [List.length_map, RR, seval]
      refine hK _ _ ?_; clear hK K
      refine awp_ret ?_; simp only [bodyQ, aresult, ares, List.length_map, RR, seval]
      refine Gives.pure ?_
      rw [eqB_len]
      intro e
      simp [e] at hc1
    · have hlen : l.length = m.length := by
        have : decide ((l.length : Int) = (m.length : Int)) = true := by simpa using hc1
        have := of_decide_eq_true this
        omega
      refine awp_skip ?_; try simp only [RR]
      refine awp_seq ?_
      refine awp_seq_k fun K hK => ?_
      refine awp_region rfl ?_
      simp only [List.length_map, RR, seval]
      refine hK _ _ ?_; clear hK K
      refine awp_name fun F1 M1 hfr hH => ?_
      have g1 := hfr 1
      have g4 := hfr 4
      have g13 := hfr 13
      have g14 := hfr 14
      have g15 := hfr 15
      try simp only [List.length_map, RR, seval] at g1 g4 g13 g14 g15
      have f1 := g1; clear g1
      have f4 := g4; clear g4
      have f13 := g13; clear g13
      have f14 := g14; clear g14
      have f15 := g15; clear g15
      clear hfr hH
      refine awp_block ?_
      refine awp_each [1, 13, 14] (l.length) (fun k fr M => fr 15 = .int .i64 (k : Nat) ∧ l.take k = m.take k) ⟨f15, rfl⟩ ?_
      rintro k F2 M2 hk0 ⟨fx, hk⟩ agx K0 hK0
      have f1 := (agx 1 rfl).trans f1
      have f13 := (agx 13 rfl).trans f13
      have f14 := (agx 14 rfl).trans f14
      have f15 := fx; clear fx
      have ag0 := agree.refl [1, 13, 14] F2
      clear agx
      refine awp_seq_k fun K hK => ?_
      refine awp_region rfl ?_
      simp only [f14, f15, List.length_map, RR, seval]
      refine hK _ _ ?_; clear hK K
      refine awp_seq ?_
      refine awp_if _ rfl (fun hc => ?_) (fun hc => ?_)
      · have hlt0 : k < l.length := by have := of_decide_eq_true hc; omega
        clear hc
        have g1 := List.getElem?_eq_getElem hlt0
        have g2 := List.getElem?_eq_getElem (show k < m.length by omega)
        have ga := getS g1
        have gb := getS g2
        have o1 := hol.all _ (List.getElem_mem hlt0)
        have o2 := hom.all _ (List.getElem_mem (show k < m.length by omega))
        have z1 := szS_mem (List.getElem_mem hlt0)
        generalize l[k] = a at *
        generalize m[k] = b at *
        have z2 := a.sz_eq
        have hx := sameExprs_con (szE a.es) a.es b.es (Nat.le_refl _) o1.es o2.es
        have ht := ih (szS a.thn) (by omega) a.thn b.thn (Nat.le_refl _) o1.thn o2.thn
        have hu := ih (szS a.els) (by omega) a.els b.els (Nat.le_refl _) o1.els o2.els
        obtain ⟨k1, s1, l1, t1, u1⟩ := a
        obtain ⟨k2, s2, l2, t2, u2⟩ := b
        simp only [Sm.kind, Sm.name, Sm.es, Sm.thn, Sm.els] at ga gb hx ht hu
        refine awp_skip ?_; try simp only [RR]
        refine awp_seq ?_
        refine awp_block ?_
        refine awp_seq_k fun K hK => ?_
        refine awp_region rfl ?_
        simp only [f13, f15, List.length_map, ga, gb, RR, seval]
        refine awpN_intro fun b6 hn6 => ?_
        simp only [f13, f15, List.length_map, ga, gb, RR, seval]
        refine hK _ _ ?_; clear hK K
        refine awp_seq_k fun K hK => ?_
        refine awp_region rfl ?_
        simp only [f1, List.length_map, ga, gb, RR, seval]
        refine awpN_intro fun b7 hn7 => ?_
        have nb7_b6 : b7 ≠ b6 := fun e => by rw [e] at hn7; simp only [RR, seval, reduceCtorEq] at hn7
        have nb6_b7 : b6 ≠ b7 := fun e => nb7_b6 e.symm
        simp only [f1, nb7_b6, nb6_b7, List.length_map, ga, gb, RR, seval]
        refine hK _ _ ?_; clear hK K
        refine awp_seq ?_
        refine awp_seq_k fun K hK => ?_
        refine awp_region rfl ?_
        simp only [nb7_b6, nb6_b7, List.length_map, ga, gb, RR, seval]
        all_goals try ((first | refine awpG_splitN (fun h => ?_) (fun h => ?_) | refine awpG_split (fun h => ?_) (fun h => ?_)) <;> simp only [h, f1, f13, f14, f15, nb7_b6, nb6_b7, List.length_map, ga, gb, RR, seval])
        all_goals try ((first | refine awpG_splitN (fun h => ?_) (fun h => ?_) | refine awpG_split (fun h => ?_) (fun h => ?_)) <;> simp only [h, f1, f13, f14, f15, nb7_b6, nb6_b7, List.length_map, ga, gb, RR, seval])
        all_goals try (refine awpC_pure' (hx) ?_; simp only [nb7_b6, nb6_b7, List.length_map, ga, gb, RR, seval])
        all_goals
          refine hK _ _ ?_; clear hK K
          refine awp_if _ rfl (fun hc7 => ?_) (fun hc7 => ?_)
          · try (cases hc7; done)
            all_goals
              refine awp_seq_k fun K hK => ?_
              refine awp_region rfl ?_
              simp only [List.length_map, ga, gb, RR, seval]
              refine hK _ _ ?_; clear hK K
              refine awp_ret ?_; simp only [bodyQ, aresult, ares, List.length_map, ga, gb, RR, seval]
              refine Gives.pure ?_
              rw [eqB_at g1 g2]
              intro e
              cases e
              simp_all [eqB_self]
          · try (cases hc7; done)
            all_goals
              refine awp_skip ?_; try simp only [RR]
              refine awp_seq_k fun K hK => ?_
              refine awp_region rfl ?_
              simp only [nb7_b6, nb6_b7, List.length_map, ga, gb, RR, seval]
              all_goals try (refine awpC_pure' (ht) ?_; simp only [nb7_b6, nb6_b7, List.length_map, ga, gb, RR, seval])
              all_goals try ((first | refine awpG_splitN (fun h => ?_) (fun h => ?_) | refine awpG_split (fun h => ?_) (fun h => ?_)) <;> simp only [h, f1, f13, f14, f15, nb7_b6, nb6_b7, List.length_map, ga, gb, RR, seval])
              all_goals try (refine awpC_pure' (hu) ?_; simp only [nb7_b6, nb6_b7, List.length_map, ga, gb, RR, seval])
              all_goals
                refine hK _ _ ?_; clear hK K
                refine awp_if _ rfl (fun hc9 => ?_) (fun hc9 => ?_)
                · try (cases hc9; done)
                  all_goals
                    refine awp_seq_k fun K hK => ?_
                    refine awp_region rfl ?_
                    simp only [List.length_map, ga, gb, RR, seval]
                    refine hK _ _ ?_; clear hK K
                    refine awp_ret ?_; simp only [bodyQ, aresult, ares, List.length_map, ga, gb, RR, seval]
                    refine Gives.pure ?_
                    rw [eqB_at g1 g2]
                    intro e
                    cases e
                    simp_all [eqB_self]
                · try (cases hc9; done)
                  all_goals
                    refine awp_skip ?_; try simp only [RR]
                    refine awp_region rfl ?_
                    simp only [f15, List.length_map, ga, gb, RR, seval]
                    try rw [IntWalk.i64_in _ (by omega)]
                    refine hK0 _ _ hlt0 ⟨by first | rfl | (simp only [upd_app, seval]; rfl), take_same hk g1 g2 (by simp_all [eqB_iff])⟩ (by repeat (first | exact ag0 | refine agree.upd rfl ?_))
      · have hkn0 : k = l.length := by have := of_decide_eq_false hc; omega
        clear hc
        refine awp_exit ?_; simp only [RR, seval]
        refine awp_seq_k fun K hK => ?_
        refine awp_region rfl ?_
        simp only [List.length_map, RR, seval]
        refine hK _ _ ?_; clear hK K
        refine awp_ret ?_; simp only [bodyQ, aresult, ares, List.length_map, RR, seval]
        refine Gives.pure ?_
        rw [hkn0] at hk
        rw [eqB_true (take_all_same hlen hk)]
set_option maxHeartbeats 4000000 in
theorem SameStmts_con (n : Nat) : ∀ (l m : List Sm), szS l ≤ n → okS l → okS m → PCon env 36 [.isl 5 (l.map Sm.row), .isl 5 (m.map Sm.row)] (.bool (eqB l m)) := by
  induction n using Nat.strongRecOn with
  | _ n ih =>
    intro l m hn hol hom
    have hfl : l.length ≤ 9223372036854775807 := hol.fit
    refine con_of 83 [.tmp 4] Tryd.func36 rfl rfl rfl rfl ?_
    refine awp_seq_k fun K hK => ?_
    refine awp_region rfl ?_
    simp only [List.length_map, RR, seval]
    refine hK _ _ ?_; clear hK K
    refine awp_seq ?_
    refine awp_seq_k fun K hK => ?_
    refine awp_region rfl ?_
    simp only [List.length_map, RR, seval]
    refine hK _ _ ?_; clear hK K
    refine awp_if _ rfl (fun hc1 => ?_) (fun hc1 => ?_)
    · refine awp_seq_k fun K hK => ?_
      refine awp_region rfl ?_
      simp only [List.length_map, RR, seval]
      refine hK _ _ ?_; clear hK K
      refine awp_ret ?_; simp only [bodyQ, aresult, ares, List.length_map, RR, seval]
      refine Gives.pure ?_
      rw [eqB_len]
      intro e
      simp [e] at hc1
    · have hlen : l.length = m.length := by
        have : decide ((l.length : Int) = (m.length : Int)) = true := by simpa using hc1
        have := of_decide_eq_true this
        omega
      refine awp_skip ?_; try simp only [RR]
      refine awp_seq ?_
      refine awp_seq_k fun K hK => ?_
      refine awp_region rfl ?_
      simp only [List.length_map, RR, seval]
      refine hK _ _ ?_; clear hK K
      refine awp_name fun F1 M1 hfr hH => ?_
      have g0 := hfr 0
      have g1 := hfr 1
      have g4 := hfr 4
      have g5 := hfr 5
      try simp only [List.length_map, RR, seval] at g0 g1 g4 g5
      have f0 := g0; clear g0
      have f1 := g1; clear g1
      have f4 := g4; clear g4
      have f5 := g5; clear g5
      clear hfr hH
      refine awp_block ?_
      refine awp_each [0, 1] (l.length) (fun k fr M => fr 5 = .int .i64 (k : Nat) ∧ l.take k = m.take k) ⟨f5, rfl⟩ ?_
      rintro k F2 M2 hk0 ⟨fx, hk⟩ agx K0 hK0
      have f0 := (agx 0 rfl).trans f0
      have f1 := (agx 1 rfl).trans f1
      have f5 := fx; clear fx
      have ag0 := agree.refl [0, 1] F2
      clear agx
      refine awp_seq ?_
      refine awp_seq_k fun K hK => ?_
      refine awp_region rfl ?_
      simp only [f0, f5, List.length_map, RR, seval]
      refine hK _ _ ?_; clear hK K
      refine awp_if _ rfl (fun hc => ?_) (fun hc => ?_)
      · have hlt0 : k < l.length := by have := of_decide_eq_true hc; omega
        clear hc
        have g1 := List.getElem?_eq_getElem hlt0
        have g2 := List.getElem?_eq_getElem (show k < m.length by omega)
        have ga := getS g1
        have gb := getS g2
        have o1 := hol.all _ (List.getElem_mem hlt0)
        have o2 := hom.all _ (List.getElem_mem (show k < m.length by omega))
        have z1 := szS_mem (List.getElem_mem hlt0)
        generalize l[k] = a at *
        generalize m[k] = b at *
        have z2 := a.sz_eq
        have hx := SameExprs_con (szE a.es) a.es b.es (Nat.le_refl _) o1.es o2.es
        have ht := ih (szS a.thn) (by omega) a.thn b.thn (Nat.le_refl _) o1.thn o2.thn
        have hu := ih (szS a.els) (by omega) a.els b.els (Nat.le_refl _) o1.els o2.els
        obtain ⟨k1, s1, l1, t1, u1⟩ := a
        obtain ⟨k2, s2, l2, t2, u2⟩ := b
        simp only [Sm.kind, Sm.name, Sm.es, Sm.thn, Sm.els] at ga gb hx ht hu
        refine awp_skip ?_; try simp only [RR]
        refine awp_seq ?_
        refine awp_block ?_
        refine awp_seq_k fun K hK => ?_
        refine awp_region_draw2 (fun x => True) [(0, 3), (1, 3), (2, 3), (3, 3), (4, 1), (5, 3), (6, 3), (7, 3), (8, 3), (9, 1), (10, 3), (11, 3), (12, 3), (13, 3), (14, 3), (15, 3), (16, 1), (17, 3), (18, 3), (19, 3), (20, 3), (21, 1), (22, 3), (23, 3), (24, 3), (25, 3), (26, 3), (27, 3), (28, 3), (29, 1), (30, 3), (31, 3), (32, 3), (33, 3), (34, 1), (35, 1), (36, 3), (37, 3), (38, 3), (39, 3), (40, 3), (41, 3), (42, 3), (43, 1), (44, 3), (45, 3), (46, 3), (47, 3), (48, 1), (49, 1), (50, 3), (51, 3), (52, 3), (53, 3), (54, 3), (55, 3), (56, 3), (57, 1), (58, 3), (59, 3), (60, 3), (61, 3), (62, 1), (63, 1), (64, 3), (65, 3)] [] draws (by kernel_rfl) rfl rfl ?_
        simp only [emitF, markOf, EM, f0, f1, f5, List.length_map, ga, gb, apc_nil, apc_cons, RR, seval]
        all_goals try ((first | refine awpG_splitN (fun h => ?_) (fun h => ?_) | refine awpG_split (fun h => ?_) (fun h => ?_)) <;> simp only [h, emitF, markOf, EM, f0, f1, f5, List.length_map, ga, gb, apc_nil, apc_cons, RR, seval])
        all_goals try ((first | refine awpG_splitN (fun h => ?_) (fun h => ?_) | refine awpG_split (fun h => ?_) (fun h => ?_)) <;> simp only [h, emitF, markOf, EM, f0, f1, f5, List.length_map, ga, gb, apc_nil, apc_cons, RR, seval])
        all_goals try (refine awpC_pure' (hx) ?_; simp only [emitF, markOf, EM, f0, f1, f5, List.length_map, ga, gb, apc_nil, apc_cons, RR, seval])
        all_goals try ((first | refine awpG_splitN (fun h => ?_) (fun h => ?_) | refine awpG_split (fun h => ?_) (fun h => ?_)) <;> simp only [h, emitF, markOf, EM, f0, f1, f5, List.length_map, ga, gb, apc_nil, apc_cons, RR, seval])
        all_goals try (refine awpC_pure' (ht) ?_; simp only [emitF, markOf, EM, f0, f1, f5, List.length_map, ga, gb, apc_nil, apc_cons, RR, seval])
        all_goals try ((first | refine awpG_splitN (fun h => ?_) (fun h => ?_) | refine awpG_split (fun h => ?_) (fun h => ?_)) <;> simp only [h, emitF, markOf, EM, f0, f1, f5, List.length_map, ga, gb, apc_nil, apc_cons, RR, seval])
        all_goals try (refine awpC_pure' (hu) ?_; simp only [emitF, markOf, EM, f0, f1, f5, List.length_map, ga, gb, apc_nil, apc_cons, RR, seval])
        all_goals
          refine hK _ _ ?_; clear hK K
          refine awp_if _ rfl (fun hc6 => ?_) (fun hc6 => ?_)
          · try (cases hc6; done)
            all_goals
              refine awp_seq_k fun K hK => ?_
              refine awp_region rfl ?_
              simp only [List.length_map, ga, gb, apc_nil, apc_cons, RR, seval]
              refine hK _ _ ?_; clear hK K
              refine awp_ret ?_; simp only [bodyQ, aresult, ares, List.length_map, ga, gb, apc_nil, apc_cons, RR, seval]
              refine Gives.pure ?_
              rw [eqB_at g1 g2]
              intro e
              cases e
              simp_all [eqB_self]
          · try (cases hc6; done)
            all_goals
              refine awp_skip ?_; try simp only [RR]
              refine awp_region rfl ?_
              simp only [f5, List.length_map, ga, gb, apc_nil, apc_cons, RR, seval]
              try rw [IntWalk.i64_in _ (by omega)]
              refine hK0 _ _ hlt0 ⟨by first | rfl | (simp only [upd_app, seval]; rfl), take_same hk g1 g2 (by simp_all [eqB_iff])⟩ (by repeat (first | exact ag0 | refine agree.upd rfl ?_))
      · have hkn0 : k = l.length := by have := of_decide_eq_false hc; omega
        clear hc
        refine awp_exit ?_; simp only [RR, seval]
        refine awp_seq_k fun K hK => ?_
        refine awp_region rfl ?_
        simp only [List.length_map, RR, seval]
        refine hK _ _ ?_; clear hK K
        refine awp_ret ?_; simp only [bodyQ, aresult, ares, List.length_map, RR, seval]
        refine Gives.pure ?_
        rw [hkn0] at hk
        rw [eqB_true (take_all_same hlen hk)]
theorem pg_ne {p q : Pg} (h : ¬ (p.vars = q.vars ∧ p.arrs = q.arrs ∧ p.funs = q.funs)) : eqB p q = false := eqB_false fun e => h (by subst e; exact ⟨rfl, rfl, rfl⟩)
theorem pg_eq {p q : Pg} (h1 : p.vars = q.vars) (h2 : p.arrs = q.arrs) (h3 : p.funs = q.funs) : eqB p q = true := eqB_true (by cases p; cases q; simp_all)
set_option maxHeartbeats 4000000 in
theorem pSame_con (p q : Pg) (hp : p.ok) (hq : q.ok) : PCon env 14 [p.av, q.av] (.bool (eqB p q)) := by
  have hv := sameTexts_con p.vars q.vars hp.vars.fit hq.vars.fit
  have fa : p.arrs.length ≤ 9223372036854775807 := hp.afit
  have ff : p.funs.length ≤ 9223372036854775807 := hp.ffit
  have hav : p.av = .agg p.row := rfl
  have hrow : p.row = [.isl 1 (p.vars.map strRow), .isl 2 (p.arrs.map Ar.row), .isl 5 (p.funs.map Fu.row)] := rfl
  have hav2 : q.av = .agg q.row := rfl
  have hrow2 : q.row = [.isl 1 (q.vars.map strRow), .isl 2 (q.arrs.map Ar.row), .isl 5 (q.funs.map Fu.row)] := rfl
  rw [hav, hrow, hav2, hrow2]
  refine con_of 98 [.tmp 4] Tryd.func14 rfl rfl rfl rfl ?_
  refine awp_seq_k fun K hK => ?_
  refine awp_region rfl ?_
  simp only [List.length_map, RR, seval]
  refine awpN_intro fun b2 hn2 => ?_
  simp only [List.length_map, RR, seval]
  refine awpN_intro fun b3 hn3 => ?_
  have nb3_b2 : b3 ≠ b2 := fun e => by rw [e] at hn3; simp only [RR, seval, reduceCtorEq] at hn3
  have nb2_b3 : b2 ≠ b3 := fun e => nb3_b2 e.symm
  simp only [nb3_b2, nb2_b3, List.length_map, RR, seval]
  refine hK _ _ ?_; clear hK K
  refine awp_seq ?_
  refine awp_seq_k fun K hK => ?_
  refine awp_region rfl ?_
  simp only [nb3_b2, nb2_b3, List.length_map, RR, seval]
  all_goals try (refine awpC_pure' (hv) ?_; simp only [nb3_b2, nb2_b3, List.length_map, RR, seval])
  all_goals try ((first | refine awpG_splitN (fun h => ?_) (fun h => ?_) | refine awpG_split (fun h => ?_) (fun h => ?_)) <;> simp only [h, nb3_b2, nb2_b3, List.length_map, RR, seval])
  all_goals try ((first | refine awpG_splitN (fun h => ?_) (fun h => ?_) | refine awpG_split (fun h => ?_) (fun h => ?_)) <;> simp only [h, nb3_b2, nb2_b3, List.length_map, RR, seval])
  all_goals
    refine hK _ _ ?_; clear hK K
    refine awp_if _ rfl (fun hc1 => ?_) (fun hc1 => ?_)
    · try (cases hc1; done)
      all_goals
        refine awp_seq_k fun K hK => ?_
        refine awp_region rfl ?_
        simp only [List.length_map, RR, seval]
        refine hK _ _ ?_; clear hK K
        refine awp_ret ?_; simp only [bodyQ, aresult, ares, List.length_map, RR, seval]
        refine Gives.pure ?_
        rw [pg_ne]
        rintro ⟨h1, h2, h3⟩
        simp_all [eqB_self]
    · try (cases hc1; done)
      all_goals
        have hvv : p.vars = q.vars := by simp_all [eqB_iff]
        have hla : p.arrs.length = q.arrs.length := by simp_all <;> omega
        have hlf : p.funs.length = q.funs.length := by simp_all <;> omega
        refine awp_skip ?_; try simp only [RR]
        refine awp_seq ?_
        refine awp_seq_k fun K hK => ?_
        refine awp_region rfl ?_
        simp only [nb3_b2, nb2_b3, List.length_map, RR, seval]
        refine hK _ _ ?_; clear hK K
        refine awp_name fun F1 M1 hfr hH => ?_
        have g2 := hfr 2
        have g3 := hfr 3
        have g4 := hfr 4
        have g35 := hfr 35
        have g36 := hfr 36
        have g37 := hfr 37
        have gb2 := hH b2
        have gb3 := hH b3
        try simp only [nb3_b2, nb2_b3, List.length_map, RR, seval] at g2 g3 g4 g35 g36 g37 gb2 gb3
        have f2 := g2; clear g2
        have f3 := g3; clear g3
        have f4 := g4; clear g4
        have f35 := g35; clear g35
        have f36 := g36; clear g36
        have f37 := g37; clear g37
        have hb2 := gb2; clear gb2
        have hb3 := gb3; clear gb3
        clear hfr hH
        refine awp_block ?_
        refine awp_each [2, 3, 35, 36] (p.arrs.length) (fun k fr M => fr 37 = .int .i64 (k : Nat) ∧ M b2 = M1 b2 ∧ M b3 = M1 b3 ∧ p.arrs.take k = q.arrs.take k) ⟨f37, rfl, rfl, rfl⟩ ?_
        rintro k F2 M2 hk0 ⟨fx, gb2, gb3, hk⟩ agx K0 hK0
        have f2 := (agx 2 rfl).trans f2
        have f3 := (agx 3 rfl).trans f3
        have f35 := (agx 35 rfl).trans f35
        have f36 := (agx 36 rfl).trans f36
        have f37 := fx; clear fx
        have hb2 := gb2.trans hb2
        have hb3 := gb3.trans hb3
        have ag0 := agree.refl [2, 3, 35, 36] F2
        have e0_b2 := gb2; clear gb2
        have e0_b3 := gb3; clear gb3
        clear agx
        refine awp_seq_k fun K hK => ?_
        refine awp_region rfl ?_
        simp only [f36, f37, List.length_map, RR, seval]
        refine hK _ _ ?_; clear hK K
        refine awp_seq ?_
        refine awp_if _ rfl (fun hc => ?_) (fun hc => ?_)
        · have hlt0 : k < p.arrs.length := by have := of_decide_eq_true hc; omega
          clear hc
          have g1 := List.getElem?_eq_getElem hlt0
          have g2 := List.getElem?_eq_getElem (show k < q.arrs.length by omega)
          have ga := getA g1
          have gb := getA g2
          generalize p.arrs[k] = a at *
          generalize q.arrs[k] = b at *
          obtain ⟨n1, s1⟩ := a
          obtain ⟨n2, s2⟩ := b
          simp only at ga gb
          refine awp_skip ?_; try simp only [RR]
          refine awp_seq ?_
          refine awp_block ?_
          refine awp_seq_k fun K hK => ?_
          refine awp_region rfl ?_
          simp only [f35, f37, hb2, hb3, nb3_b2, nb2_b3, List.length_map, ga, gb, RR, seval]
          refine awpN_intro fun b6 hn6 => ?_
          have nb6_b2 : b6 ≠ b2 := fun e => by rw [e] at hn6; simp only [hb2, nb3_b2, nb2_b3, RR, seval, reduceCtorEq] at hn6
          have nb2_b6 : b2 ≠ b6 := fun e => nb6_b2 e.symm
          have nb6_b3 : b6 ≠ b3 := fun e => by rw [e] at hn6; simp only [hb3, nb3_b2, nb2_b3, RR, seval, reduceCtorEq] at hn6
          have nb3_b6 : b3 ≠ b6 := fun e => nb6_b3 e.symm
          simp only [f35, f37, hb2, hb3, nb3_b2, nb2_b3, nb6_b2, nb2_b6, nb6_b3, nb3_b6, List.length_map, ga, gb, RR, seval]
          refine hK _ _ ?_; clear hK K
          refine awp_seq_k fun K hK => ?_
          refine awp_region_draw2 (fun x => x ≠ b2 ∧ x ≠ b3 ∧ x ≠ b6) [(0, 1), (1, 3), (2, 1), (3, 3), (4, 3), (5, 1), (6, 3)] [] draws (by kernel_rfl) rfl rfl ?_
          simp only [emitF, markOf, EM, f3, hb2, hb3, nb3_b2, nb2_b3, nb6_b2, nb2_b6, nb6_b3, nb3_b6, List.length_map, ga, gb, RR, seval]
          refine hK _ _ ?_; clear hK K
          refine awp_if _ rfl (fun hc6 => ?_) (fun hc6 => ?_)
          · refine awp_seq_k fun K hK => ?_
            refine awp_region rfl ?_
            simp only [List.length_map, ga, gb, RR, seval]
            refine hK _ _ ?_; clear hK K
            refine awp_ret ?_; simp only [bodyQ, aresult, ares, List.length_map, ga, gb, RR, seval]
            refine Gives.pure ?_
            rw [pg_ne]
            rintro ⟨h1, h2, h3⟩
            have := of_eqB (eqB_at g1 g2 (by rintro e; cases e; simp_all))
            exact this h2
          · refine awp_skip ?_; try simp only [RR]
            refine awp_region rfl ?_
            simp only [f37, List.length_map, ga, gb, RR, seval]
            try rw [IntWalk.i64_in _ (by omega)]
            refine hK0 _ _ hlt0 ⟨by first | rfl | (simp only [upd_app, seval]; rfl), (by first | exact e0_b2 | (simp only [nb3_b2, nb2_b3, nb6_b2, nb2_b6, nb6_b3, nb3_b6, upd_app, seval]; first | done | exact e0_b2)), (by first | exact e0_b3 | (simp only [nb3_b2, nb2_b3, nb6_b2, nb2_b6, nb6_b3, nb3_b6, upd_app, seval]; first | done | exact e0_b3)), take_same hk g1 g2 (by simp_all)⟩ (by repeat (first | exact ag0 | refine agree.upd rfl ?_))
        · have hkn0 : k = p.arrs.length := by have := of_decide_eq_false hc; omega
          clear hc
          have haa : p.arrs = q.arrs := take_all_same hla (by rw [hkn0] at hk; exact hk)
          refine awp_exit ?_; simp only [RR, seval]
          refine awp_seq ?_
          refine awp_seq_k fun K hK => ?_
          refine awp_region rfl ?_
          simp only [f2, hb2, hb3, nb3_b2, nb2_b3, List.length_map, RR, seval]
          refine hK _ _ ?_; clear hK K
          refine awp_name fun F3 M3 hfr hH => ?_
          have g3 := hfr 3
          have g4 := hfr 4
          have g51 := hfr 51
          have g52 := hfr 52
          have g53 := hfr 53
          have gb2 := hH b2
          have gb3 := hH b3
          try simp only [f2, f3, f35, f36, f37, hb2, hb3, nb3_b2, nb2_b3, List.length_map, RR, seval] at g3 g4 g51 g52 g53 gb2 gb3
          have f3 := g3; clear g3
          have f4 := g4; clear g4
          have f51 := g51; clear g51
          have f52 := g52; clear g52
          have f53 := g53; clear g53
          have hb2 := gb2; clear gb2
          have hb3 := gb3; clear gb3
          clear hfr hH
          refine awp_block ?_
          refine awp_each [3, 51, 52] (p.funs.length) (fun k fr M => fr 53 = .int .i64 (k : Nat) ∧ M b2 = M3 b2 ∧ M b3 = M3 b3 ∧ p.funs.take k = q.funs.take k) ⟨f53, rfl, rfl, rfl⟩ ?_
          rintro k F4 M4 hk2 ⟨fx, gb2, gb3, hk⟩ agx K2 hK2
          have f3 := (agx 3 rfl).trans f3
          have f51 := (agx 51 rfl).trans f51
          have f52 := (agx 52 rfl).trans f52
          have f53 := fx; clear fx
          have hb2 := gb2.trans hb2
          have hb3 := gb3.trans hb3
          have ag2 := agree.refl [3, 51, 52] F4
          have e2_b2 := gb2; clear gb2
          have e2_b3 := gb3; clear gb3
          clear agx
          refine awp_seq_k fun K hK => ?_
          refine awp_region rfl ?_
          simp only [f52, f53, List.length_map, RR, seval]
          refine hK _ _ ?_; clear hK K
          refine awp_seq ?_
          refine awp_if _ rfl (fun hc => ?_) (fun hc => ?_)
          · have hlt2 : k < p.funs.length := by have := of_decide_eq_true hc; omega
            clear hc
            have g1 := List.getElem?_eq_getElem hlt2
            have g2 := List.getElem?_eq_getElem (show k < q.funs.length by omega)
            have ga := getF g1
            have gb := getF g2
            have o1 := hp.funs _ (List.getElem_mem hlt2)
            have o2 := hq.funs _ (List.getElem_mem (show k < q.funs.length by omega))
            generalize p.funs[k] = a at *
            generalize q.funs[k] = b at *
            have c1 := sameTexts_con a.params b.params o1.params.fit o2.params.fit
            have c2 := sameTexts_con a.locs b.locs o1.locs.fit o2.locs.fit
            have c3 := sameStmts_con (szS a.body) a.body b.body (Nat.le_refl _) o1.body o2.body
            obtain ⟨n1, p1, l1, w1, d1⟩ := a
            obtain ⟨n2, p2, l2, w2, d2⟩ := b
            simp only at ga gb c1 c2 c3
            refine awp_skip ?_; try simp only [RR]
            refine awp_seq ?_
            refine awp_block ?_
            refine awp_seq_k fun K hK => ?_
            refine awp_region rfl ?_
            simp only [f51, f53, hb2, hb3, nb3_b2, nb2_b3, List.length_map, ga, gb, RR, seval]
            refine awpN_intro fun b8 hn8 => ?_
            have nb8_b2 : b8 ≠ b2 := fun e => by rw [e] at hn8; simp only [hb2, nb3_b2, nb2_b3, RR, seval, reduceCtorEq] at hn8
            have nb2_b8 : b2 ≠ b8 := fun e => nb8_b2 e.symm
            have nb8_b3 : b8 ≠ b3 := fun e => by rw [e] at hn8; simp only [hb3, nb3_b2, nb2_b3, RR, seval, reduceCtorEq] at hn8
            have nb3_b8 : b3 ≠ b8 := fun e => nb8_b3 e.symm
            simp only [f51, f53, hb2, hb3, nb3_b2, nb2_b3, nb8_b2, nb2_b8, nb8_b3, nb3_b8, List.length_map, ga, gb, RR, seval]
            refine hK _ _ ?_; clear hK K
            refine awp_seq_k fun K hK => ?_
            refine awp_region rfl ?_
            simp only [f3, hb2, hb3, nb3_b2, nb2_b3, nb8_b2, nb2_b8, nb8_b3, nb3_b8, List.length_map, ga, gb, RR, seval]
            refine awpN_intro fun b9 hn9 => ?_
            have nb9_b2 : b9 ≠ b2 := fun e => by rw [e] at hn9; simp only [hb2, nb3_b2, nb2_b3, nb8_b2, nb2_b8, RR, seval, reduceCtorEq] at hn9
            have nb2_b9 : b2 ≠ b9 := fun e => nb9_b2 e.symm
            have nb9_b3 : b9 ≠ b3 := fun e => by rw [e] at hn9; simp only [hb3, nb3_b2, nb2_b3, nb8_b3, nb3_b8, RR, seval, reduceCtorEq] at hn9
            have nb3_b9 : b3 ≠ b9 := fun e => nb9_b3 e.symm
            have nb9_b8 : b9 ≠ b8 := fun e => by rw [e] at hn9; simp only [nb8_b2, nb2_b8, nb8_b3, nb3_b8, RR, seval, reduceCtorEq] at hn9
            have nb8_b9 : b8 ≠ b9 := fun e => nb9_b8 e.symm
            simp only [f3, hb2, hb3, nb3_b2, nb2_b3, nb8_b2, nb2_b8, nb8_b3, nb3_b8, nb9_b2, nb2_b9, nb9_b3, nb3_b9, nb9_b8, nb8_b9, List.length_map, ga, gb, RR, seval]
            refine hK _ _ ?_; clear hK K
            refine awp_seq ?_
            refine awp_seq_k fun K hK => ?_
            refine awp_region rfl ?_
            simp only [hb2, hb3, nb3_b2, nb2_b3, nb8_b2, nb2_b8, nb8_b3, nb3_b8, nb9_b2, nb2_b9, nb9_b3, nb3_b9, nb9_b8, nb8_b9, List.length_map, ga, gb, RR, seval]
            all_goals try ((first | refine awpG_splitN (fun h => ?_) (fun h => ?_) | refine awpG_split (fun h => ?_) (fun h => ?_)) <;> simp only [h, f3, f51, f52, f53, hb2, hb3, nb3_b2, nb2_b3, nb8_b2, nb2_b8, nb8_b3, nb3_b8, nb9_b2, nb2_b9, nb9_b3, nb3_b9, nb9_b8, nb8_b9, List.length_map, ga, gb, RR, seval])
            all_goals try ((first | refine awpG_splitN (fun h => ?_) (fun h => ?_) | refine awpG_split (fun h => ?_) (fun h => ?_)) <;> simp only [h, f3, f51, f52, f53, hb2, hb3, nb3_b2, nb2_b3, nb8_b2, nb2_b8, nb8_b3, nb3_b8, nb9_b2, nb2_b9, nb9_b3, nb3_b9, nb9_b8, nb8_b9, List.length_map, ga, gb, RR, seval])
            all_goals try (refine awpC_pure' (c1) ?_; simp only [hb2, hb3, nb3_b2, nb2_b3, nb8_b2, nb2_b8, nb8_b3, nb3_b8, nb9_b2, nb2_b9, nb9_b3, nb3_b9, nb9_b8, nb8_b9, List.length_map, ga, gb, RR, seval])
            all_goals
              refine hK _ _ ?_; clear hK K
              refine awp_if _ rfl (fun hc13 => ?_) (fun hc13 => ?_)
              · try (cases hc13; done)
                all_goals
                  refine awp_seq_k fun K hK => ?_
                  refine awp_region rfl ?_
                  simp only [List.length_map, ga, gb, RR, seval]
                  refine hK _ _ ?_; clear hK K
                  refine awp_ret ?_; simp only [bodyQ, aresult, ares, List.length_map, ga, gb, RR, seval]
                  refine Gives.pure ?_
                  rw [pg_ne]
                  rintro ⟨h1, h2, h3⟩
                  have := of_eqB (eqB_at g1 g2 (by rintro e; cases e; simp_all [eqB_self]))
                  exact this h3
              · try (cases hc13; done)
                all_goals
                  refine awp_skip ?_; try simp only [RR]
                  refine awp_seq_k fun K hK => ?_
                  refine awp_region rfl ?_
                  simp only [hb2, hb3, nb3_b2, nb2_b3, nb8_b2, nb2_b8, nb8_b3, nb3_b8, nb9_b2, nb2_b9, nb9_b3, nb3_b9, nb9_b8, nb8_b9, List.length_map, ga, gb, RR, seval]
                  all_goals try (refine awpC_pure' (c2) ?_; simp only [hb2, hb3, nb3_b2, nb2_b3, nb8_b2, nb2_b8, nb8_b3, nb3_b8, nb9_b2, nb2_b9, nb9_b3, nb3_b9, nb9_b8, nb8_b9, List.length_map, ga, gb, RR, seval])
                  all_goals try ((first | refine awpG_splitN (fun h => ?_) (fun h => ?_) | refine awpG_split (fun h => ?_) (fun h => ?_)) <;> simp only [h, f3, f51, f52, f53, hb2, hb3, nb3_b2, nb2_b3, nb8_b2, nb2_b8, nb8_b3, nb3_b8, nb9_b2, nb2_b9, nb9_b3, nb3_b9, nb9_b8, nb8_b9, List.length_map, ga, gb, RR, seval])
                  all_goals try (refine awpC_pure' (c3) ?_; simp only [hb2, hb3, nb3_b2, nb2_b3, nb8_b2, nb2_b8, nb8_b3, nb3_b8, nb9_b2, nb2_b9, nb9_b3, nb3_b9, nb9_b8, nb8_b9, List.length_map, ga, gb, RR, seval])
                  all_goals
                    refine hK _ _ ?_; clear hK K
                    refine awp_if _ rfl (fun hc15 => ?_) (fun hc15 => ?_)
                    · try (cases hc15; done)
                      all_goals
                        refine awp_seq_k fun K hK => ?_
                        refine awp_region rfl ?_
                        simp only [List.length_map, ga, gb, RR, seval]
                        refine hK _ _ ?_; clear hK K
                        refine awp_ret ?_; simp only [bodyQ, aresult, ares, List.length_map, ga, gb, RR, seval]
                        refine Gives.pure ?_
                        rw [pg_ne]
                        rintro ⟨h1, h2, h3⟩
                        have := of_eqB (eqB_at g1 g2 (by rintro e; cases e; simp_all [eqB_self]))
                        exact this h3
                    · try (cases hc15; done)
                      all_goals
                        refine awp_skip ?_; try simp only [RR]
                        refine awp_region rfl ?_
                        simp only [f53, List.length_map, ga, gb, RR, seval]
                        try rw [IntWalk.i64_in _ (by omega)]
                        refine hK2 _ _ hlt2 ⟨by first | rfl | (simp only [upd_app, seval]; rfl), (by first | exact e2_b2 | (simp only [nb3_b2, nb2_b3, nb8_b2, nb2_b8, nb8_b3, nb3_b8, nb9_b2, nb2_b9, nb9_b3, nb3_b9, nb9_b8, nb8_b9, upd_app, seval]; first | done | exact e2_b2)), (by first | exact e2_b3 | (simp only [nb3_b2, nb2_b3, nb8_b2, nb2_b8, nb8_b3, nb3_b8, nb9_b2, nb2_b9, nb9_b3, nb3_b9, nb9_b8, nb8_b9, upd_app, seval]; first | done | exact e2_b3)), take_same hk g1 g2 (by simp_all [eqB_iff])⟩ (by repeat (first | exact ag2 | refine agree.upd rfl ?_))
          · have hkn2 : k = p.funs.length := by have := of_decide_eq_false hc; omega
            clear hc
            refine awp_exit ?_; simp only [RR, seval]
            refine awp_seq_k fun K hK => ?_
            refine awp_region rfl ?_
            simp only [List.length_map, RR, seval]
            refine hK _ _ ?_; clear hK K
            refine awp_ret ?_; simp only [bodyQ, aresult, ares, List.length_map, RR, seval]
            refine Gives.pure ?_
            rw [hkn2] at hk
            rw [pg_eq hvv haa (take_all_same hlf hk)]
set_option maxHeartbeats 4000000 in
theorem Same_con (p q : Pg) (hp : p.ok) (hq : q.ok) : PCon env 15 [p.av, q.av] (.bool (eqB p q)) := by
  have hv := texts_con p.vars q.vars hp.vars.fit hq.vars.fit
  have fa : p.arrs.length ≤ 9223372036854775807 := hp.afit
  have ff : p.funs.length ≤ 9223372036854775807 := hp.ffit
  have hav : p.av = .agg p.row := rfl
  have hrow : p.row = [.isl 1 (p.vars.map strRow), .isl 2 (p.arrs.map Ar.row), .isl 5 (p.funs.map Fu.row)] := rfl
  have hav2 : q.av = .agg q.row := rfl
  have hrow2 : q.row = [.isl 1 (q.vars.map strRow), .isl 2 (q.arrs.map Ar.row), .isl 5 (q.funs.map Fu.row)] := rfl
  rw [hav, hrow, hav2, hrow2]
  refine con_of 104 [.tmp 4] Tryd.func15 rfl rfl rfl rfl ?_
  refine awp_seq_k fun K hK => ?_
  refine awp_region rfl ?_
  simp only [List.length_map, RR, seval]
  refine awpN_intro fun b2 hn2 => ?_
  simp only [List.length_map, RR, seval]
  refine awpN_intro fun b3 hn3 => ?_
  have nb3_b2 : b3 ≠ b2 := fun e => by rw [e] at hn3; simp only [RR, seval, reduceCtorEq] at hn3
  have nb2_b3 : b2 ≠ b3 := fun e => nb3_b2 e.symm
  simp only [nb3_b2, nb2_b3, List.length_map, RR, seval]
  refine hK _ _ ?_; clear hK K
  refine awp_seq ?_
  refine awp_seq_k fun K hK => ?_
  refine awp_region rfl ?_
  simp only [nb3_b2, nb2_b3, List.length_map, RR, seval]
  all_goals try (refine awpC_pure' (hv) ?_; simp only [nb3_b2, nb2_b3, List.length_map, RR, seval])
  all_goals try ((first | refine awpG_splitN (fun h => ?_) (fun h => ?_) | refine awpG_split (fun h => ?_) (fun h => ?_)) <;> simp only [h, nb3_b2, nb2_b3, List.length_map, RR, seval])
  all_goals try ((first | refine awpG_splitN (fun h => ?_) (fun h => ?_) | refine awpG_split (fun h => ?_) (fun h => ?_)) <;> simp only [h, nb3_b2, nb2_b3, List.length_map, RR, seval])
  all_goals
    refine hK _ _ ?_; clear hK K
    refine awp_if _ rfl (fun hc1 => ?_) (fun hc1 => ?_)
    · try (cases hc1; done)
      all_goals
        refine awp_seq_k fun K hK => ?_
        refine awp_region rfl ?_
        simp only [List.length_map, RR, seval]
        refine hK _ _ ?_; clear hK K
        refine awp_ret ?_; simp only [bodyQ, aresult, ares, List.length_map, RR, seval]
        refine Gives.pure ?_
        rw [pg_ne]
        rintro ⟨h1, h2, h3⟩
        simp_all [eqB_self]
    · try (cases hc1; done)
      all_goals
        have hvv : p.vars = q.vars := by simp_all [eqB_iff]
        have hla : p.arrs.length = q.arrs.length := by simp_all <;> omega
        have hlf : p.funs.length = q.funs.length := by simp_all <;> omega
        refine awp_skip ?_; try simp only [RR]
        refine awp_seq ?_
        refine awp_seq_k fun K hK => ?_
        refine awp_region rfl ?_
        simp only [List.length_map, RR, seval]
        refine hK _ _ ?_; clear hK K
        refine awp_name fun F1 M1 hfr hH => ?_
        have g2 := hfr 2
        have g3 := hfr 3
        have g4 := hfr 4
        have g5 := hfr 5
        have gb2 := hH b2
        have gb3 := hH b3
        try simp only [nb3_b2, nb2_b3, List.length_map, RR, seval] at g2 g3 g4 g5 gb2 gb3
        have f2 := g2; clear g2
        have f3 := g3; clear g3
        have f4 := g4; clear g4
        have f5 := g5; clear g5
        have hb2 := gb2; clear gb2
        have hb3 := gb3; clear gb3
        clear hfr hH
        refine awp_block ?_
        refine awp_each [2, 3] (p.arrs.length) (fun k fr M => fr 5 = .int .i64 (k : Nat) ∧ M b2 = M1 b2 ∧ M b3 = M1 b3 ∧ p.arrs.take k = q.arrs.take k) ⟨f5, rfl, rfl, rfl⟩ ?_
        rintro k F2 M2 hk0 ⟨fx, gb2, gb3, hk⟩ agx K0 hK0
        have f2 := (agx 2 rfl).trans f2
        have f3 := (agx 3 rfl).trans f3
        have f5 := fx; clear fx
        have hb2 := gb2.trans hb2
        have hb3 := gb3.trans hb3
        have ag0 := agree.refl [2, 3] F2
        have e0_b2 := gb2; clear gb2
        have e0_b3 := gb3; clear gb3
        clear agx
        refine awp_seq ?_
        refine awp_seq_k fun K hK => ?_
        refine awp_region rfl ?_
        simp only [f2, f5, hb2, hb3, nb3_b2, nb2_b3, List.length_map, RR, seval]
        refine hK _ _ ?_; clear hK K
        refine awp_if _ rfl (fun hc => ?_) (fun hc => ?_)
        · have hlt0 : k < p.arrs.length := by have := of_decide_eq_true hc; omega
          clear hc
          have g1 := List.getElem?_eq_getElem hlt0
          have g2 := List.getElem?_eq_getElem (show k < q.arrs.length by omega)
          have ga := getA g1
          have gb := getA g2
          generalize p.arrs[k] = a at *
          generalize q.arrs[k] = b at *
          obtain ⟨n1, s1⟩ := a
          obtain ⟨n2, s2⟩ := b
          simp only at ga gb
          refine awp_skip ?_; try simp only [RR]
          refine awp_seq ?_
          refine awp_block ?_
          refine awp_seq_k fun K hK => ?_
          refine awp_region_draw2 (fun x => x ≠ b2 ∧ x ≠ b3) [(0, 3), (1, 1), (2, 3), (3, 3), (4, 1), (5, 3), (6, 1), (7, 3), (8, 3), (9, 1), (10, 3)] [] draws (by kernel_rfl) rfl rfl ?_
          simp only [emitF, markOf, EM, f2, f3, f5, hb2, hb3, nb3_b2, nb2_b3, List.length_map, ga, gb, RR, seval]
          refine hK _ _ ?_; clear hK K
          refine awp_if _ rfl (fun hc6 => ?_) (fun hc6 => ?_)
          · refine awp_seq_k fun K hK => ?_
            refine awp_region rfl ?_
            simp only [List.length_map, ga, gb, RR, seval]
            refine hK _ _ ?_; clear hK K
            refine awp_ret ?_; simp only [bodyQ, aresult, ares, List.length_map, ga, gb, RR, seval]
            refine Gives.pure ?_
            rw [pg_ne]
            rintro ⟨h1, h2, h3⟩
            have := of_eqB (eqB_at g1 g2 (by rintro e; cases e; simp_all))
            exact this h2
          · refine awp_skip ?_; try simp only [RR]
            refine awp_region rfl ?_
            simp only [f5, List.length_map, ga, gb, RR, seval]
            try rw [IntWalk.i64_in _ (by omega)]
            refine hK0 _ _ hlt0 ⟨by first | rfl | (simp only [upd_app, seval]; rfl), (by first | exact e0_b2 | (simp only [nb3_b2, nb2_b3, upd_app, seval]; first | done | exact e0_b2)), (by first | exact e0_b3 | (simp only [nb3_b2, nb2_b3, upd_app, seval]; first | done | exact e0_b3)), take_same hk g1 g2 (by simp_all)⟩ (by repeat (first | exact ag0 | refine agree.upd rfl ?_))
        · have hkn0 : k = p.arrs.length := by have := of_decide_eq_false hc; omega
          clear hc
          have haa : p.arrs = q.arrs := take_all_same hla (by rw [hkn0] at hk; exact hk)
          refine awp_exit ?_; simp only [RR, seval]
          refine awp_seq ?_
          refine awp_seq_k fun K hK => ?_
          refine awp_region rfl ?_
          simp only [List.length_map, RR, seval]
          refine hK _ _ ?_; clear hK K
          refine awp_name fun F3 M3 hfr hH => ?_
          have g2 := hfr 2
          have g3 := hfr 3
          have g4 := hfr 4
          have g6 := hfr 6
          have gb2 := hH b2
          have gb3 := hH b3
          try simp only [f2, f3, f5, hb2, hb3, nb3_b2, nb2_b3, List.length_map, RR, seval] at g2 g3 g4 g6 gb2 gb3
          have f2 := g2; clear g2
          have f3 := g3; clear g3
          have f4 := g4; clear g4
          have f6 := g6; clear g6
          have hb2 := gb2; clear gb2
          have hb3 := gb3; clear gb3
          clear hfr hH
          refine awp_block ?_
          refine awp_each [2, 3] (p.funs.length) (fun k fr M => fr 6 = .int .i64 (k : Nat) ∧ M b2 = M3 b2 ∧ M b3 = M3 b3 ∧ p.funs.take k = q.funs.take k) ⟨f6, rfl, rfl, rfl⟩ ?_
          rintro k F4 M4 hk2 ⟨fx, gb2, gb3, hk⟩ agx K2 hK2
          have f2 := (agx 2 rfl).trans f2
          have f3 := (agx 3 rfl).trans f3
          have f6 := fx; clear fx
          have hb2 := gb2.trans hb2
          have hb3 := gb3.trans hb3
          have ag2 := agree.refl [2, 3] F4
          have e2_b2 := gb2; clear gb2
          have e2_b3 := gb3; clear gb3
          clear agx
          refine awp_seq ?_
          refine awp_seq_k fun K hK => ?_
          refine awp_region rfl ?_
          simp only [f2, f6, hb2, hb3, nb3_b2, nb2_b3, List.length_map, RR, seval]
          refine hK _ _ ?_; clear hK K
          refine awp_if _ rfl (fun hc => ?_) (fun hc => ?_)
          · have hlt2 : k < p.funs.length := by have := of_decide_eq_true hc; omega
            clear hc
            have g1 := List.getElem?_eq_getElem hlt2
            have g2 := List.getElem?_eq_getElem (show k < q.funs.length by omega)
            have ga := getF g1
            have gb := getF g2
            have o1 := hp.funs _ (List.getElem_mem hlt2)
            have o2 := hq.funs _ (List.getElem_mem (show k < q.funs.length by omega))
            generalize p.funs[k] = a at *
            generalize q.funs[k] = b at *
            have c1 := texts_con a.params b.params o1.params.fit o2.params.fit
            have c2 := texts_con a.locs b.locs o1.locs.fit o2.locs.fit
            have c3 := SameStmts_con (szS a.body) a.body b.body (Nat.le_refl _) o1.body o2.body
            obtain ⟨n1, p1, l1, w1, d1⟩ := a
            obtain ⟨n2, p2, l2, w2, d2⟩ := b
            simp only at ga gb c1 c2 c3
            refine awp_skip ?_; try simp only [RR]
            refine awp_seq ?_
            refine awp_block ?_
            refine awp_seq_k fun K hK => ?_
            refine awp_region rfl ?_
            simp only [f2, f6, hb2, hb3, nb3_b2, nb2_b3, List.length_map, ga, gb, RR, seval]
            refine awpN_intro fun b7 hn7 => ?_
            have nb7_b2 : b7 ≠ b2 := fun e => by rw [e] at hn7; simp only [hb2, nb3_b2, nb2_b3, RR, seval, reduceCtorEq] at hn7
            have nb2_b7 : b2 ≠ b7 := fun e => nb7_b2 e.symm
            have nb7_b3 : b7 ≠ b3 := fun e => by rw [e] at hn7; simp only [hb3, nb3_b2, nb2_b3, RR, seval, reduceCtorEq] at hn7
            have nb3_b7 : b3 ≠ b7 := fun e => nb7_b3 e.symm
            simp only [f2, f6, hb2, hb3, nb3_b2, nb2_b3, nb7_b2, nb2_b7, nb7_b3, nb3_b7, List.length_map, ga, gb, RR, seval]
            refine hK _ _ ?_; clear hK K
            refine awp_seq_k fun K hK => ?_
            refine awp_region rfl ?_
            simp only [f3, f6, hb2, hb3, nb3_b2, nb2_b3, nb7_b2, nb2_b7, nb7_b3, nb3_b7, List.length_map, ga, gb, RR, seval]
            refine awpN_intro fun b8 hn8 => ?_
            have nb8_b2 : b8 ≠ b2 := fun e => by rw [e] at hn8; simp only [hb2, nb3_b2, nb2_b3, nb7_b2, nb2_b7, RR, seval, reduceCtorEq] at hn8
            have nb2_b8 : b2 ≠ b8 := fun e => nb8_b2 e.symm
            have nb8_b3 : b8 ≠ b3 := fun e => by rw [e] at hn8; simp only [hb3, nb3_b2, nb2_b3, nb7_b3, nb3_b7, RR, seval, reduceCtorEq] at hn8
            have nb3_b8 : b3 ≠ b8 := fun e => nb8_b3 e.symm
            have nb8_b7 : b8 ≠ b7 := fun e => by rw [e] at hn8; simp only [nb7_b2, nb2_b7, nb7_b3, nb3_b7, RR, seval, reduceCtorEq] at hn8
            have nb7_b8 : b7 ≠ b8 := fun e => nb8_b7 e.symm
            simp only [f3, f6, hb2, hb3, nb3_b2, nb2_b3, nb7_b2, nb2_b7, nb7_b3, nb3_b7, nb8_b2, nb2_b8, nb8_b3, nb3_b8, nb8_b7, nb7_b8, List.length_map, ga, gb, RR, seval]
            refine hK _ _ ?_; clear hK K
            refine awp_seq_k fun K hK => ?_
            refine awp_region rfl ?_
            simp only [hb2, hb3, nb3_b2, nb2_b3, nb7_b2, nb2_b7, nb7_b3, nb3_b7, nb8_b2, nb2_b8, nb8_b3, nb3_b8, nb8_b7, nb7_b8, List.length_map, ga, gb, RR, seval]
            all_goals try ((first | refine awpG_splitN (fun h => ?_) (fun h => ?_) | refine awpG_split (fun h => ?_) (fun h => ?_)) <;> simp only [h, f2, f3, f6, hb2, hb3, nb3_b2, nb2_b3, nb7_b2, nb2_b7, nb7_b3, nb3_b7, nb8_b2, nb2_b8, nb8_b3, nb3_b8, nb8_b7, nb7_b8, List.length_map, ga, gb, RR, seval])
            all_goals try ((first | refine awpG_splitN (fun h => ?_) (fun h => ?_) | refine awpG_split (fun h => ?_) (fun h => ?_)) <;> simp only [h, f2, f3, f6, hb2, hb3, nb3_b2, nb2_b3, nb7_b2, nb2_b7, nb7_b3, nb3_b7, nb8_b2, nb2_b8, nb8_b3, nb3_b8, nb8_b7, nb7_b8, List.length_map, ga, gb, RR, seval])
            all_goals try (refine awpC_pure' (c1) ?_; simp only [hb2, hb3, nb3_b2, nb2_b3, nb7_b2, nb2_b7, nb7_b3, nb3_b7, nb8_b2, nb2_b8, nb8_b3, nb3_b8, nb8_b7, nb7_b8, List.length_map, ga, gb, RR, seval])
            all_goals try ((first | refine awpG_splitN (fun h => ?_) (fun h => ?_) | refine awpG_split (fun h => ?_) (fun h => ?_)) <;> simp only [h, f2, f3, f6, hb2, hb3, nb3_b2, nb2_b3, nb7_b2, nb2_b7, nb7_b3, nb3_b7, nb8_b2, nb2_b8, nb8_b3, nb3_b8, nb8_b7, nb7_b8, List.length_map, ga, gb, RR, seval])
            all_goals try (refine awpC_pure' (c2) ?_; simp only [hb2, hb3, nb3_b2, nb2_b3, nb7_b2, nb2_b7, nb7_b3, nb3_b7, nb8_b2, nb2_b8, nb8_b3, nb3_b8, nb8_b7, nb7_b8, List.length_map, ga, gb, RR, seval])
            all_goals try ((first | refine awpG_splitN (fun h => ?_) (fun h => ?_) | refine awpG_split (fun h => ?_) (fun h => ?_)) <;> simp only [h, f2, f3, f6, hb2, hb3, nb3_b2, nb2_b3, nb7_b2, nb2_b7, nb7_b3, nb3_b7, nb8_b2, nb2_b8, nb8_b3, nb3_b8, nb8_b7, nb7_b8, List.length_map, ga, gb, RR, seval])
            all_goals try (refine awpC_pure' (c3) ?_; simp only [hb2, hb3, nb3_b2, nb2_b3, nb7_b2, nb2_b7, nb7_b3, nb3_b7, nb8_b2, nb2_b8, nb8_b3, nb3_b8, nb8_b7, nb7_b8, List.length_map, ga, gb, RR, seval])
            all_goals
              refine hK _ _ ?_; clear hK K
              refine awp_if _ rfl (fun hc13 => ?_) (fun hc13 => ?_)
              · try (cases hc13; done)
                all_goals
                  refine awp_seq_k fun K hK => ?_
                  refine awp_region rfl ?_
                  simp only [List.length_map, ga, gb, RR, seval]
                  refine hK _ _ ?_; clear hK K
                  refine awp_ret ?_; simp only [bodyQ, aresult, ares, List.length_map, ga, gb, RR, seval]
                  refine Gives.pure ?_
                  rw [pg_ne]
                  rintro ⟨h1, h2, h3⟩
                  have := of_eqB (eqB_at g1 g2 (by rintro e; cases e; simp_all [eqB_self]))
                  exact this h3
              · try (cases hc13; done)
                all_goals
                  refine awp_skip ?_; try simp only [RR]
                  refine awp_region rfl ?_
                  simp only [f6, List.length_map, ga, gb, RR, seval]
                  try rw [IntWalk.i64_in _ (by omega)]
                  refine hK2 _ _ hlt2 ⟨by first | rfl | (simp only [upd_app, seval]; rfl), (by first | exact e2_b2 | (simp only [nb3_b2, nb2_b3, nb7_b2, nb2_b7, nb7_b3, nb3_b7, nb8_b2, nb2_b8, nb8_b3, nb3_b8, nb8_b7, nb7_b8, upd_app, seval]; first | done | exact e2_b2)), (by first | exact e2_b3 | (simp only [nb3_b2, nb2_b3, nb7_b2, nb2_b7, nb7_b3, nb3_b7, nb8_b2, nb2_b8, nb8_b3, nb3_b8, nb8_b7, nb7_b8, upd_app, seval]; first | done | exact e2_b3)), take_same hk g1 g2 (by simp_all [eqB_iff])⟩ (by repeat (first | exact ag2 | refine agree.upd rfl ?_))
          · have hkn2 : k = p.funs.length := by have := of_decide_eq_false hc; omega
            clear hc
            refine awp_exit ?_; simp only [RR, seval]
            refine awp_seq_k fun K hK => ?_
            refine awp_region rfl ?_
            simp only [List.length_map, RR, seval]
            refine hK _ _ ?_; clear hK K
            refine awp_ret ?_; simp only [bodyQ, aresult, ares, List.length_map, RR, seval]
            refine Gives.pure ?_
            rw [hkn2] at hk
            rw [pg_eq hvv haa (take_all_same hlf hk)]
end Go.Proofs.YtgcncdjnipfolaaDoor
