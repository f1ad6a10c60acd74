/- Chapter 14: are trees alike? Both sides. -/
import Derived.Test.YtgcncdjnipfolaaDoorSy3
import Derived.Test.YtgcncdjnipfolaaDoorAl4
import Derived.Test.YtgcncdjnipfolaaDoorSy1
set_option linter.unusedSimpArgs false
set_option linter.unusedVariables false
set_option maxRecDepth 10000
namespace Go.Al
noncomputable def eqB {α : Type} (a b : α) : Bool := @decide (a = b) (Classical.propDecidable _)
theorem eqB_true {α : Type} {a b : α} (h : a = b) : eqB a b = true := @decide_eq_true _ (Classical.propDecidable _) h
theorem eqB_false {α : Type} {a b : α} (h : ¬ a = b) : eqB a b = false := @decide_eq_false _ (Classical.propDecidable _) h
theorem eqB_iff {α : Type} {a b : α} : eqB a b = true ↔ a = b := ⟨fun h => @of_decide_eq_true _ (Classical.propDecidable _) h, eqB_true⟩
theorem eqB_self {α : Type} (a : α) : eqB a a = true := eqB_true rfl
theorem of_eqB {α : Type} {a b : α} (h : eqB a b = false) : ¬ a = b := fun e => by rw [eqB_true e] at h; cases h
theorem eqB_symm {α : Type} (a b : α) : eqB a b = eqB b a := by
  by_cases h : a = b
  · rw [eqB_true h, eqB_true h.symm]
  · rw [eqB_false h, eqB_false fun e => h e.symm]
theorem eqB_at {α : Type} {l m : List α} {i : Nat} {a b : α} (h1 : l[i]? = some a) (h2 : m[i]? = some b) (h : ¬ a = b) : eqB l m = false :=
  eqB_false fun e => by subst e; rw [h1] at h2; cases h2; exact h rfl
theorem eqB_len {α : Type} {l m : List α} (h : ¬ l.length = m.length) : eqB l m = false := eqB_false fun e => h (by rw [e])
theorem take_same {α : Type} {l m : List α} {k : Nat} (hk : l.take k = m.take k) {a b : α} (h1 : l[k]? = some a) (h2 : m[k]? = some b) (h : a = b) : l.take (k + 1) = m.take (k + 1) := by
  obtain ⟨i1, rfl⟩ := List.getElem?_eq_some_iff.1 h1
  obtain ⟨i2, rfl⟩ := List.getElem?_eq_some_iff.1 h2
  rw [List.take_succ_eq_append_getElem i1, List.take_succ_eq_append_getElem i2, hk, h]
theorem take_all_same {α : Type} {l m : List α} (hl : l.length = m.length) (hk : l.take l.length = m.take l.length) : l = m := by
  rw [List.take_length, hl, List.take_length] at hk; exact hk
end Go.Al
namespace Go.Proofs.YtgcncdjnipfolaaDoor
open Go.Al
theorem texts_con (l m : List Str) (hfl : fitL l) (hfm : fitL m) : PCon env 35 [.isl 1 (l.map strRow), .isl 1 (m.map strRow)] (.bool (eqB l m)) := by
  have hfl : l.length ≤ 9223372036854775807 := hfl
  refine con_of 26 [.tmp 4] Tryd.func35 rfl rfl rfl rfl ?_
  refine awp_seq_k fun K hK => ?_
  refine awp_region rfl ?_
  simp only [List.length_map, RR, seval]
  refine hK _ _ ?_; clear hK K
  refine awp_seq ?_
  refine awp_seq_k fun K hK => ?_
  refine awp_region rfl ?_
  simp only [List.length_map, RR, seval]
  refine hK _ _ ?_; clear hK K
  refine awp_if _ rfl (fun hc1 => ?_) (fun hc1 => ?_)
  · refine awp_seq_k fun K hK => ?_
    refine awp_region rfl ?_
    simp only [List.length_map, RR, seval]
    refine hK _ _ ?_; clear hK K
    refine awp_ret ?_; simp only [bodyQ, aresult, ares, List.length_map, RR, seval]
    refine Gives.pure ?_
    rw [eqB_len]
    intro e
    simp [e] at hc1
  · have hlen : l.length = m.length := by
      have : decide ((l.length : Int) = (m.length : Int)) = true := by simpa using hc1
      have := of_decide_eq_true this
      omega
    refine awp_skip ?_; try simp only [RR]
    refine awp_seq ?_
    refine awp_seq_k fun K hK => ?_
    refine awp_region rfl ?_
    simp only [List.length_map, RR, seval]
    refine hK _ _ ?_; clear hK K
    refine awp_name fun F1 M1 hfr hH => ?_
    have g0 := hfr 0
    have g1 := hfr 1
    have g4 := hfr 4
    have g5 := hfr 5
    try simp only [List.length_map, RR, seval] at g0 g1 g4 g5
    have f0 := g0; clear g0
    have f1 := g1; clear g1
    have f4 := g4; clear g4
    have f5 := g5; clear g5
    clear hfr hH
    refine awp_block ?_
    refine awp_each [0, 1] (l.length) (fun k fr M => fr 5 = .int .i64 (k : Nat) ∧ l.take k = m.take k) ⟨f5, rfl⟩ ?_
    rintro k F2 M2 hk0 ⟨fx, hk⟩ agx K0 hK0
    have f0 := (agx 0 rfl).trans f0
    have f1 := (agx 1 rfl).trans f1
    have f5 := fx; clear fx
    have ag0 := agree.refl [0, 1] F2
    clear agx
    refine awp_seq ?_
    refine awp_seq_k fun K hK => ?_
    refine awp_region rfl ?_
    simp only [f0, f5, List.length_map, RR, seval]
    refine hK _ _ ?_; clear hK K
    refine awp_if _ rfl (fun hc => ?_) (fun hc => ?_)
    · have hlt0 : k < l.length := by have := of_decide_eq_true hc; omega
      clear hc
      have g1 := List.getElem?_eq_getElem hlt0
      have g2 := List.getElem?_eq_getElem (show k < m.length by omega)
      have ga := getN g1
      have gb := getN g2
      generalize l[k] = a at *
      generalize m[k] = b at *
      refine awp_skip ?_; try simp only [RR]
      refine awp_seq ?_
      refine awp_block ?_
      refine awp_seq_k fun K hK => ?_
      refine awp_region_draw2 (fun x => True) [(0, 3), (1, 3), (2, 3), (3, 1), (4, 3), (5, 3), (6, 3), (7, 1), (8, 3)] [] draws (by kernel_rfl) rfl rfl ?_
      simp only [emitF, markOf, EM, f0, f1, f5, List.length_map, ga, gb, RR, seval]
      refine hK _ _ ?_; clear hK K
      refine awp_if _ rfl (fun hc6 => ?_) (fun hc6 => ?_)
      · refine awp_seq_k fun K hK => ?_
        refine awp_region rfl ?_
        simp only [List.length_map, ga, gb, RR, seval]
        refine hK _ _ ?_; clear hK K
        refine awp_ret ?_; simp only [bodyQ, aresult, ares, List.length_map, ga, gb, RR, seval]
        refine Gives.pure ?_
        rw [eqB_at g1 g2]
        rintro rfl
        simp at hc6
      · refine awp_skip ?_; try simp only [RR]
        refine awp_region rfl ?_
        simp only [f5, List.length_map, ga, gb, RR, seval]
        try rw [IntWalk.i64_in _ (by omega)]
        refine hK0 _ _ hlt0 ⟨by first | rfl | (simp only [upd_app, seval]; rfl), take_same hk g1 g2 (by simpa using hc6)⟩ (by repeat (first | exact ag0 | refine agree.upd rfl ?_))
    · have hkn0 : k = l.length := by have := of_decide_eq_false hc; omega
      clear hc
      refine awp_exit ?_; simp only [RR, seval]
      refine awp_seq_k fun K hK => ?_
      refine awp_region rfl ?_
      simp only [List.length_map, RR, seval]
      refine hK _ _ ?_; clear hK K
      refine awp_ret ?_; simp only [bodyQ, aresult, ares, List.length_map, RR, seval]
      refine Gives.pure ?_
      rw [hkn0] at hk
      rw [eqB_true (take_all_same hlen hk)]
theorem sameTexts_con (l m : List Str) (hfl : fitL l) (hfm : fitL m) : PCon env 33 [.isl 1 (l.map strRow), .isl 1 (m.map strRow)] (.bool (eqB l m)) := by
  have hfl : l.length ≤ 9223372036854775807 := hfl
  refine con_of 26 [.tmp 4] Tryd.func33 rfl rfl rfl rfl ?_
  refine awp_seq_k fun K hK => ?_
  refine awp_region rfl ?_
  simp only [List.length_map, RR, seval]
  refine hK _ _ ?_; clear hK K
  refine awp_seq ?_
  refine awp_seq_k fun K hK => ?_
  refine awp_region rfl ?_
  simp only [List.length_map, RR, seval]
  refine hK _ _ ?_; clear hK K
  refine awp_if _ rfl (fun hc1 => ?_) (fun hc1 => ?_)
  · refine awp_seq_k fun K hK => ?_
    refine awp_region rfl ?_
    simp only [List.length_map, RR, seval]
    refine hK _ _ ?_; clear hK K
    refine awp_ret ?_; simp only [bodyQ, aresult, ares, List.length_map, RR, seval]
    refine Gives.pure ?_
    rw [eqB_len]
    intro e
    simp [e] at hc1
  · have hlen : l.length = m.length := by
      have : decide ((l.length : Int) = (m.length : Int)) = true := by simpa using hc1
      have := of_decide_eq_true this
      omega
    refine awp_skip ?_; try simp only [RR]
    refine awp_seq ?_
    refine awp_seq_k fun K hK => ?_
    refine awp_region rfl ?_
    simp only [List.length_map, RR, seval]
    refine hK _ _ ?_; clear hK K
    refine awp_name fun F1 M1 hfr hH => ?_
    have g1 := hfr 1
    have g4 := hfr 4
    have g12 := hfr 12
    have g13 := hfr 13
    have g14 := hfr 14
    try simp only [List.length_map, RR, seval] at g1 g4 g12 g13 g14
    have f1 := g1; clear g1
    have f4 := g4; clear g4
    have f12 := g12; clear g12
    have f13 := g13; clear g13
    have f14 := g14; clear g14
    clear hfr hH
    refine awp_block ?_
    refine awp_each [1, 12, 13] (l.length) (fun k fr M => fr 14 = .int .i64 (k : Nat) ∧ l.take k = m.take k) ⟨f14, rfl⟩ ?_
    rintro k F2 M2 hk0 ⟨fx, hk⟩ agx K0 hK0
    have f1 := (agx 1 rfl).trans f1
    have f12 := (agx 12 rfl).trans f12
    have f13 := (agx 13 rfl).trans f13
    have f14 := fx; clear fx
    have ag0 := agree.refl [1, 12, 13] F2
    clear agx
    refine awp_seq_k fun K hK => ?_
    refine awp_region rfl ?_
    simp only [f13, f14, List.length_map, RR, seval]
    refine hK _ _ ?_; clear hK K
    refine awp_seq ?_
    refine awp_if _ rfl (fun hc => ?_) (fun hc => ?_)
    · have hlt0 : k < l.length := by have := of_decide_eq_true hc; omega
      clear hc
      have g1 := List.getElem?_eq_getElem hlt0
      have g2 := List.getElem?_eq_getElem (show k < m.length by omega)
      have ga := getN g1
      have gb := getN g2
      generalize l[k] = a at *
      generalize m[k] = b at *
      refine awp_skip ?_; try simp only [RR]
      refine awp_seq ?_
      refine awp_block ?_
      refine awp_seq_k fun K hK => ?_
      refine awp_region rfl ?_
      simp only [f12, f14, List.length_map, ga, gb, RR, seval]
      refine hK _ _ ?_; clear hK K
      refine awp_seq_k fun K hK => ?_
      refine awp_region rfl ?_
      simp only [f1, List.length_map, ga, gb, RR, seval]
      refine hK _ _ ?_; clear hK K
      refine awp_if _ rfl (fun hc6 => ?_) (fun hc6 => ?_)
      · refine awp_seq_k fun K hK => ?_
        refine awp_region rfl ?_
        simp only [List.length_map, ga, gb, RR, seval]
        refine hK _ _ ?_; clear hK K
        refine awp_ret ?_; simp only [bodyQ, aresult, ares, List.length_map, ga, gb, RR, seval]
        refine Gives.pure ?_
        rw [eqB_at g1 g2]
        rintro rfl
        simp at hc6
      · refine awp_skip ?_; try simp only [RR]
        refine awp_region rfl ?_
        simp only [f14, List.length_map, ga, gb, RR, seval]
        try rw [IntWalk.i64_in _ (by omega)]
        refine hK0 _ _ hlt0 ⟨by first | rfl | (simp only [upd_app, seval]; rfl), take_same hk g1 g2 (by simpa using hc6)⟩ (by repeat (first | exact ag0 | refine agree.upd rfl ?_))
    · have hkn0 : k = l.length := by have := of_decide_eq_false hc; omega
      clear hc
      refine awp_exit ?_; simp only [RR, seval]
      refine awp_seq_k fun K hK => ?_
      refine awp_region rfl ?_
      simp only [List.length_map, RR, seval]
      refine hK _ _ ?_; clear hK K
      refine awp_ret ?_; simp only [bodyQ, aresult, ares, List.length_map, RR, seval]
      refine Gives.pure ?_
      rw [hkn0] at hk
      rw [eqB_true (take_all_same hlen hk)]
set_option maxHeartbeats 4000000 in
theorem sameExprs_con (n : Nat) : ∀ (l m : List Ex), szE l ≤ n → okE l → okE m → PCon env 57 [.isl 5 (l.map Ex.row), .isl 5 (m.map Ex.row)] (.bool (eqB l m)) := by
  induction n using Nat.strongRecOn with
  | _ n ih =>
    intro l m hn hol hom
    have hfl : l.length ≤ 9223372036854775807 := hol.fit
    refine con_of 57 [.tmp 4] Tryd.func57 rfl rfl rfl rfl ?_
    refine awp_seq_k fun K hK => ?_
    refine awp_region rfl ?_
    simp only [List.length_map, RR, seval]
    refine hK _ _ ?_; clear hK K
    refine awp_seq ?_
    refine awp_seq_k fun K hK => ?_
    refine awp_region rfl ?_
    simp only [List.length_map, RR, seval]
    refine hK _ _ ?_; clear hK K
    refine awp_if _ rfl (fun hc1 => ?_) (fun hc1 => ?_)
    · refine awp_seq_k fun K hK => ?_
      refine awp_region rfl ?_
      simp only [List.length_map, RR, seval]
      refine hK _ _ ?_; clear hK K
      refine awp_ret ?_; simp only [bodyQ, aresult, ares, List.length_map, RR, seval]
      refine Gives.pure ?_
      rw [eqB_len]
      intro e
      simp [e] at hc1
    · have hlen : l.length = m.length := by
        have : decide ((l.length : Int) = (m.length : Int)) = true := by simpa using hc1
        have := of_decide_eq_true this
        omega
      refine awp_skip ?_; try simp only [RR]
      refine awp_seq ?_
      refine awp_seq_k fun K hK => ?_
      refine awp_region rfl ?_
      simp only [List.length_map, RR, seval]
      refine hK _ _ ?_; clear hK K
      refine awp_name fun F1 M1 hfr hH => ?_
      have g1 := hfr 1
      have g4 := hfr 4
      have g13 := hfr 13
      have g14 := hfr 14
      have g15 := hfr 15
      try simp only [List.length_map, RR, seval] at g1 g4 g13 g14 g15
      have f1 := g1; clear g1
      have f4 := g4; clear g4
      have f13 := g13; clear g13
      have f14 := g14; clear g14
      have f15 := g15; clear g15
      clear hfr hH
      refine awp_block ?_
      refine awp_each [1, 13, 14] (l.length) (fun k fr M => fr 15 = .int .i64 (k : Nat) ∧ l.take k = m.take k) ⟨f15, rfl⟩ ?_
      rintro k F2 M2 hk0 ⟨fx, hk⟩ agx K0 hK0
      have f1 := (agx 1 rfl).trans f1
      have f13 := (agx 13 rfl).trans f13
      have f14 := (agx 14 rfl).trans f14
      have f15 := fx; clear fx
      have ag0 := agree.refl [1, 13, 14] F2
      clear agx
      refine awp_seq_k fun K hK => ?_
      refine awp_region rfl ?_
      simp only [f14, f15, List.length_map, RR, seval]
      refine hK _ _ ?_; clear hK K
      refine awp_seq ?_
      refine awp_if _ rfl (fun hc => ?_) (fun hc => ?_)
      · have hlt0 : k < l.length := by have := of_decide_eq_true hc; omega
        clear hc
        have g1 := List.getElem?_eq_getElem hlt0
        have g2 := List.getElem?_eq_getElem (show k < m.length by omega)
        have ga := getE g1
        have gb := getE g2
        have o1 := hol.all _ (List.getElem_mem hlt0)
        have o2 := hom.all _ (List.getElem_mem (show k < m.length by omega))
        have z1 := szE_mem (List.getElem_mem hlt0)
        generalize l[k] = a at *
        generalize m[k] = b at *
        have z2 := a.sz_eq
        have hih := ih (szE a.kids) (by omega) a.kids b.kids (Nat.le_refl _) o1.kids o2.kids
        obtain ⟨k1, p1, n1, s1, l1⟩ := a
        obtain ⟨k2, p2, n2, s2, l2⟩ := b
        simp only [Ex.kind, Ex.op, Ex.num, Ex.name, Ex.kids] at ga gb hih
        refine awp_skip ?_; try simp only [RR]
        refine awp_seq ?_
        refine awp_block ?_
        refine awp_seq_k fun K hK => ?_
        refine awp_region rfl ?_
        simp only [f13, f15, List.length_map, ga, gb, RR, seval]
        refine awpN_intro fun b6 hn6 => ?_
        simp only [f13, f15, List.length_map, ga, gb, RR, seval]
        refine hK _ _ ?_; clear hK K
        refine awp_seq_k fun K hK => ?_
        refine awp_region rfl ?_
        simp only [f1, List.length_map, ga, gb, RR, seval]
        refine awpN_intro fun b7 hn7 => ?_
        have nb7_b6 : b7 ≠ b6 := fun e => by rw [e] at hn7; simp only [RR, seval, reduceCtorEq] at hn7
        have nb6_b7 : b6 ≠ b7 := fun e => nb7_b6 e.symm
        simp only [f1, nb7_b6, nb6_b7, List.length_map, ga, gb, RR, seval]
        refine hK _ _ ?_; clear hK K
        refine awp_seq ?_
        refine awp_seq_k fun K hK => ?_
        refine awp_region rfl ?_
        simp only [nb7_b6, nb6_b7, List.length_map, ga, gb, RR, seval]
        repeat' ((first | refine awpG_splitN (fun h => ?_) (fun h => ?_) | refine awpG_split (fun h => ?_) (fun h => ?_)) <;> simp only [h, f1, f13, f14, f15, nb7_b6, nb6_b7, List.length_map, ga, gb, RR, seval])
        all_goals
          refine hK _ _ ?_; clear hK K
          refine awp_if _ rfl (fun hc7 => ?_) (fun hc7 => ?_)
          · try (cases hc7; done)
            all_goals
              refine awp_seq_k fun K hK => ?_
              refine awp_region rfl ?_
              simp only [List.length_map, ga, gb, RR, seval]
              refine hK _ _ ?_; clear hK K
              refine awp_ret ?_; simp only [bodyQ, aresult, ares, List.length_map, ga, gb, RR, seval]
              refine Gives.pure ?_
              rw [eqB_at g1 g2]
              intro e
              cases e
              simp_all
          · try (cases hc7; done)
            all_goals
              refine awp_skip ?_; try simp only [RR]
              refine awp_seq_k fun K hK => ?_
              refine awp_region rfl ?_
              simp only [nb7_b6, nb6_b7, List.length_map, ga, gb, RR, seval]
              refine awpC_pure' (hih) ?_
              simp only [nb7_b6, nb6_b7, List.length_map, ga, gb, RR, seval]
              refine hK _ _ ?_; clear hK K
              refine awp_if _ rfl (fun hc9 => ?_) (fun hc9 => ?_)
              · refine awp_seq_k fun K hK => ?_
                refine awp_region rfl ?_
                simp only [List.length_map, ga, gb, RR, seval]
                refine hK _ _ ?_; clear hK K
                refine awp_ret ?_; simp only [bodyQ, aresult, ares, List.length_map, ga, gb, RR, seval]
                refine Gives.pure ?_
                rw [eqB_at g1 g2]
                intro e
                cases e
                simp [eqB_self] at hc9
              · refine awp_skip ?_; try simp only [RR]
                refine awp_region rfl ?_
                simp only [f15, List.length_map, ga, gb, RR, seval]
                try rw [IntWalk.i64_in _ (by omega)]
                refine hK0 _ _ hlt0 ⟨by first | rfl | (simp only [upd_app, seval]; rfl), take_same hk g1 g2 (by have hq := eqB_iff.1 (by simpa using hc9 : eqB l1 l2 = true); simp_all)⟩ (by repeat (first | exact ag0 | refine agree.upd rfl ?_))
      · have hkn0 : k = l.length := by have := of_decide_eq_false hc; omega
        clear hc
        refine awp_exit ?_; simp only [RR, seval]
        refine awp_seq_k fun K hK => ?_
        refine awp_region rfl ?_
        simp only [List.length_map, RR, seval]
        refine hK _ _ ?_; clear hK K
        refine awp_ret ?_; simp only [bodyQ, aresult, ares, List.length_map, RR, seval]
        refine Gives.pure ?_
        rw [hkn0] at hk
        rw [eqB_true (take_all_same hlen hk)]
set_option maxHeartbeats 4000000 in
theorem SameExprs_con (n : Nat) : ∀ (l m : List Ex), szE l ≤ n → okE l → okE m → PCon env 58 [.isl 5 (l.map Ex.row), .isl 5 (m.map Ex.row)] (.bool (eqB l m)) := by
  induction n using Nat.strongRecOn with
  | _ n ih =>
    intro l m hn hol hom
    have hfl : l.length ≤ 9223372036854775807 := hol.fit
    refine con_of 81 [.tmp 4] Tryd.func58 rfl rfl rfl rfl ?_
    refine awp_seq_k fun K hK => ?_
    refine awp_region rfl ?_
    simp only [List.length_map, RR, seval]
    refine hK _ _ ?_; clear hK K
    refine awp_seq ?_
    refine awp_seq_k fun K hK => ?_
    refine awp_region rfl ?_
    simp only [List.length_map, RR, seval]
    refine hK _ _ ?_; clear hK K
    refine awp_if _ rfl (fun hc1 => ?_) (fun hc1 => ?_)
    · refine awp_seq_k fun K hK => ?_
      refine awp_region rfl ?_
      simp only [List.length_map, RR, seval]
      refine hK _ _ ?_; clear hK K
      refine awp_ret ?_; simp only [bodyQ, aresult, ares, List.length_map, RR, seval]
      refine Gives.pure ?_
      rw [eqB_len]
      intro e
      simp [e] at hc1
    · have hlen : l.length = m.length := by
        have : decide ((l.length : Int) = (m.length : Int)) = true := by simpa using hc1
        have := of_decide_eq_true this
        omega
      refine awp_skip ?_; try simp only [RR]
      refine awp_seq ?_
      refine awp_seq_k fun K hK => ?_
      refine awp_region rfl ?_
      simp only [List.length_map, RR, seval]
      refine hK _ _ ?_; clear hK K
      refine awp_name fun F1 M1 hfr hH => ?_
      have g0 := hfr 0
      have g1 := hfr 1
      have g4 := hfr 4
      have g5 := hfr 5
      try simp only [List.length_map, RR, seval] at g0 g1 g4 g5
      have f0 := g0; clear g0
      have f1 := g1; clear g1
      have f4 := g4; clear g4
      have f5 := g5; clear g5
      clear hfr hH
      refine awp_block ?_
      refine awp_each [0, 1] (l.length) (fun k fr M => fr 5 = .int .i64 (k : Nat) ∧ l.take k = m.take k) ⟨f5, rfl⟩ ?_
      rintro k F2 M2 hk0 ⟨fx, hk⟩ agx K0 hK0
      have f0 := (agx 0 rfl).trans f0
      have f1 := (agx 1 rfl).trans f1
      have f5 := fx; clear fx
      have ag0 := agree.refl [0, 1] F2
      clear agx
      refine awp_seq ?_
      refine awp_seq_k fun K hK => ?_
      refine awp_region rfl ?_
      simp only [f0, f5, List.length_map, RR, seval]
      refine hK _ _ ?_; clear hK K
      refine awp_if _ rfl (fun hc => ?_) (fun hc => ?_)
      · have hlt0 : k < l.length := by have := of_decide_eq_true hc; omega
        clear hc
        have g1 := List.getElem?_eq_getElem hlt0
        have g2 := List.getElem?_eq_getElem (show k < m.length by omega)
        have ga := getE g1
        have gb := getE g2
        have o1 := hol.all _ (List.getElem_mem hlt0)
        have o2 := hom.all _ (List.getElem_mem (show k < m.length by omega))
        have z1 := szE_mem (List.getElem_mem hlt0)
        generalize l[k] = a at *
        generalize m[k] = b at *
        have z2 := a.sz_eq
        have hih := ih (szE a.kids) (by omega) a.kids b.kids (Nat.le_refl _) o1.kids o2.kids
        obtain ⟨k1, p1, n1, s1, l1⟩ := a
        obtain ⟨k2, p2, n2, s2, l2⟩ := b
        simp only [Ex.kind, Ex.op, Ex.num, Ex.name, Ex.kids] at ga gb hih
        refine awp_skip ?_; try simp only [RR]
        refine awp_seq ?_
        refine awp_block ?_
        refine awp_seq_k fun K hK => ?_
        refine awp_region_draw2 (fun x => True) [(0, 3), (1, 3), (2, 3), (3, 3), (4, 1), (5, 3), (6, 3), (7, 3), (8, 3), (9, 1), (10, 3), (11, 3), (12, 3), (13, 3), (14, 3), (15, 3), (16, 1), (17, 3), (18, 3), (19, 3), (20, 3), (21, 1), (22, 3), (23, 3), (24, 3), (25, 3), (26, 3), (27, 3), (28, 3), (29, 1), (30, 3), (31, 3), (32, 3), (33, 3), (34, 1), (35, 3), (36, 3), (37, 3), (38, 3), (39, 3), (40, 3), (41, 3), (42, 1), (43, 3), (44, 3), (45, 3), (46, 3), (47, 1), (48, 3), (49, 3), (50, 3), (51, 3), (52, 3), (53, 3), (54, 3), (55, 1), (56, 3), (57, 3), (58, 3), (59, 3), (60, 1), (61, 1), (62, 3), (63, 3)] [] draws (by kernel_rfl) rfl rfl ?_
        simp only [emitF, markOf, EM, f0, f1, f5, List.length_map, ga, gb, RR, seval]
        all_goals try ((first | refine awpG_splitN (fun h => ?_) (fun h => ?_) | refine awpG_split (fun h => ?_) (fun h => ?_)) <;> simp only [h, emitF, markOf, EM, f0, f1, f5, List.length_map, ga, gb, RR, seval])
        all_goals try ((first | refine awpG_splitN (fun h => ?_) (fun h => ?_) | refine awpG_split (fun h => ?_) (fun h => ?_)) <;> simp only [h, emitF, markOf, EM, f0, f1, f5, List.length_map, ga, gb, RR, seval])
        all_goals try ((first | refine awpG_splitN (fun h => ?_) (fun h => ?_) | refine awpG_split (fun h => ?_) (fun h => ?_)) <;> simp only [h, emitF, markOf, EM, f0, f1, f5, List.length_map, ga, gb, RR, seval])
        all_goals try ((first | refine awpG_splitN (fun h => ?_) (fun h => ?_) | refine awpG_split (fun h => ?_) (fun h => ?_)) <;> simp only [h, emitF, markOf, EM, f0, f1, f5, List.length_map, ga, gb, RR, seval])
        all_goals try (refine awpC_pure' (hih) ?_; simp only [emitF, markOf, EM, f0, f1, f5, List.length_map, ga, gb, RR, seval])
        all_goals
          refine hK _ _ ?_; clear hK K
          refine awp_if _ rfl (fun hc6 => ?_) (fun hc6 => ?_)
          · try (cases hc6; done)
            all_goals
              refine awp_seq_k fun K hK => ?_
              refine awp_region rfl ?_
              simp only [List.length_map, ga, gb, RR, seval]
              refine hK _ _ ?_; clear hK K
              refine awp_ret ?_; simp only [bodyQ, aresult, ares, List.length_map, ga, gb, RR, seval]
              refine Gives.pure ?_
              rw [eqB_at g1 g2]
              intro e
              cases e
              simp_all [eqB_self]
          · try (cases hc6; done)
            all_goals
              refine awp_skip ?_; try simp only [RR]
              refine awp_region rfl ?_
              simp only [f5, List.length_map, ga, gb, RR, seval]
              try rw [IntWalk.i64_in _ (by omega)]
              refine hK0 _ _ hlt0 ⟨by first | rfl | (simp only [upd_app, seval]; rfl), take_same hk g1 g2 (by have hq := eqB_iff.1 (by simpa using hc6 : eqB l1 l2 = true); simp_all)⟩ (by repeat (first | exact ag0 | refine agree.upd rfl ?_))
      · have hkn0 : k = l.length := by have := of_decide_eq_false hc; omega
        clear hc
        refine awp_exit ?_; simp only [RR, seval]
        refine awp_seq_k fun K hK => ?_
        refine awp_region rfl ?_
        simp only [List.length_map, RR, seval]
        refine hK _ _ ?_; clear hK K
        refine awp_ret ?_; simp only [bodyQ, aresult, ares, List.length_map, RR, seval]
        refine Gives.pure ?_
        rw [hkn0] at hk
        rw [eqB_true (take_all_same hlen hk)]
end Go.Proofs.YtgcncdjnipfolaaDoor
