/- Chapter 17, the judge's: Expr, Check, Sound. -/
import Derived.Test.YtlokndnkpleegaaT17d
set_option linter.unusedSimpArgs false
set_option linter.unusedVariables false
set_option maxRecDepth 10000
namespace Go.Proofs.Ytlokndnkpleegaa
open Go.Al
theorem rCheckT_con (p : Pg) (hp : p.ok) : PCon env 44 [p.av] (.int .i64 (checkT p)) := by
  have hX : checkT p = if (p.funs.all fun f => knT (knF p) f.body) = true then (if (p.funs.all fun f => fitT (wdF p) f.word f.body) = true then 0 else 5) else 4 := rfl
  have hof := hp.funs
  have hff := hp.ffit
  have hKn := fun (x : List Sm) (h : okS x) => KnownStmts_con p hp _ x (Nat.le_refl _) h
  have hFi := fun (w : Bool) (x : List Sm) (h : okS x) (hk : knT (knF p) x = true) => Fits_con p hp w _ x (Nat.le_refl _) h hk
  generalize checkT p = res at *
  generalize wdF p = W at *
  generalize knF p = Kf at *
  clear hp
  obtain ⟨vs, aa, fs⟩ := p
  simp only [Pg.av, Pg.row, fitL] at *
  refine con_of 43 [.tmp 2] Try.func44 rfl rfl rfl rfl ?_
  refine awp_seq_k fun K hK => ?_
  refine awp_region rfl ?_
  simp only [List.length_map, RR, seval]
  refine awpN_intro fun b1 hn1 => ?_
  simp only [List.length_map, RR, seval]
  refine hK _ _ ?_; clear hK K
  refine awp_seq ?_
  refine awp_seq_k fun K hK => ?_
  refine awp_region rfl ?_
  simp only [List.length_map, RR, seval]
  refine hK _ _ ?_; clear hK K
  refine awp_name fun F1 M1 hfr hH => ?_
  have g1 := hfr 1
  have g2 := hfr 2
  have g3 := hfr 3
  have gb1 := hH b1
  try simp only [List.length_map, RR, seval] at g1 g2 g3 gb1
  have f1 := g1; clear g1
  have f2 := g2; clear g2
  have f3 := g3; clear g3
  have hb1 := gb1; clear gb1
  clear hfr hH
  refine awp_block ?_
  refine awp_each [1] (fs.length) (fun k fr M => fr 3 = .int .i64 (k : Nat) ∧ M b1 = M1 b1 ∧ (fs.all fun f => knT Kf f.body) = ((fs.drop k).all fun f => knT Kf f.body)) ⟨f3, rfl, by rw [List.drop_zero]⟩ ?_
  rintro k F2 M2 hk0 ⟨fx, gb1, hall⟩ agx K0 hK0
  have f1 := (agx 1 rfl).trans f1
  have f3 := fx; clear fx
  have hb1 := gb1.trans hb1
  have ag0 := agree.refl [1] F2
  have e0_b1 := gb1; clear gb1
  clear agx
  refine awp_seq ?_
  refine awp_seq_k fun K hK => ?_
  refine awp_region rfl ?_
  simp only [f1, f3, hb1, List.length_map, RR, seval]
  refine hK _ _ ?_; clear hK K
  refine awp_if _ rfl (fun hc => ?_) (fun hc => ?_)
  · have hlt0 : k < fs.length := by have := of_decide_eq_true hc; omega
    clear hc
    have hg := getF (List.getElem?_eq_getElem hlt0)
    have hok := (hof _ (List.getElem_mem hlt0)).body
    rw [List.drop_eq_getElem_cons hlt0, List.all_cons] at hall
    generalize fs[k] = f at hg hall hok
    have hk := hKn f.body hok
    generalize knT Kf f.body = KK at hk hall
    refine awp_skip ?_; try simp only [RR]
    refine awp_seq ?_
    refine awp_block ?_
    refine awp_seq_k fun K hK => ?_
    refine awp_region_draw2 (fun x => x ≠ b1) [(0, 1), (1, 3), (2, 1), (3, 3), (4, 3), (5, 3), (6, 1), (7, 1), (8, 3)] [] draws (by kernel_rfl) rfl rfl ?_
    simp only [emitF, markOf, EM, f1, f3, hb1, List.length_map, hg, RR, seval]
    refine awpC_pure' (hk) ?_
    simp only [emitF, markOf, EM, f1, f3, hb1, List.length_map, hg, RR, seval]
    refine hK _ _ ?_; clear hK K
    refine awp_if _ rfl (fun hc4 => ?_) (fun hc4 => ?_)
    · refine awp_seq_k fun K hK => ?_
      refine awp_region rfl ?_
      simp only [List.length_map, hg, RR, seval]
      refine hK _ _ ?_; clear hK K
      refine awp_ret ?_; simp only [bodyQ, aresult, ares, List.length_map, hg, RR, seval]
      refine Gives.pure ?_
      rw [hX, if_neg (by rw [hall, show KK = false by simpa using hc4]; simp)]
    · refine awp_skip ?_; try simp only [RR]
      refine awp_region rfl ?_
      simp only [f3, List.length_map, hg, RR, seval]
      try rw [IntWalk.i64_in _ (by omega)]
      refine hK0 _ _ hlt0 ⟨by first | rfl | (simp only [upd_app, seval]; rfl), (by first | exact e0_b1 | (simp only [upd_app, seval]; first | done | exact e0_b1)), by rw [hall, show KK = true by simpa using hc4, Bool.true_and]⟩ (by repeat (first | exact ag0 | refine agree.upd rfl ?_))
  · have hkn0 : k = fs.length := by have := of_decide_eq_false hc; omega
    clear hc
    rw [hkn0, List.drop_length, List.all_nil] at hall
    rw [if_pos hall] at hX
    have hkn := List.all_eq_true.1 hall
    refine awp_exit ?_; simp only [RR, seval]
    refine awp_seq ?_
    refine awp_seq_k fun K hK => ?_
    refine awp_region rfl ?_
    simp only [List.length_map, RR, seval]
    refine hK _ _ ?_; clear hK K
    refine awp_name fun F3 M3 hfr hH => ?_
    have g1 := hfr 1
    have g2 := hfr 2
    have g4 := hfr 4
    have gb1 := hH b1
    try simp only [f1, f3, hb1, List.length_map, RR, seval] at g1 g2 g4 gb1
    have f1 := g1; clear g1
    have f2 := g2; clear g2
    have f4 := g4; clear g4
    have hb1 := gb1; clear gb1
    clear hfr hH
    refine awp_block ?_
    refine awp_each [1] (fs.length) (fun j fr M => fr 4 = .int .i64 (j : Nat) ∧ M b1 = M3 b1 ∧ (fs.all fun f => fitT W f.word f.body) = ((fs.drop j).all fun f => fitT W f.word f.body)) ⟨f4, rfl, by rw [List.drop_zero]⟩ ?_
    rintro j F4 M4 hk2 ⟨fx, gb1, hall2⟩ agx K2 hK2
    have f1 := (agx 1 rfl).trans f1
    have f4 := fx; clear fx
    have hb1 := gb1.trans hb1
    have ag2 := agree.refl [1] F4
    have e2_b1 := gb1; clear gb1
    clear agx
    refine awp_seq ?_
    refine awp_seq_k fun K hK => ?_
    refine awp_region rfl ?_
    simp only [f1, f4, hb1, List.length_map, RR, seval]
    refine hK _ _ ?_; clear hK K
    refine awp_if _ rfl (fun hc => ?_) (fun hc => ?_)
    · have hlt2 : j < fs.length := by have := of_decide_eq_true hc; omega
      clear hc
      have hg := getF (List.getElem?_eq_getElem hlt2)
      have hok := (hof _ (List.getElem_mem hlt2)).body
      have hkf := hkn _ (List.getElem_mem hlt2)
      rw [List.drop_eq_getElem_cons hlt2, List.all_cons] at hall2
      generalize fs[j] = f at hg hall2 hok hkf
      have hk := hFi f.word f.body hok hkf
      generalize fitT W f.word f.body = KK at hk hall2
      refine awp_skip ?_; try simp only [RR]
      refine awp_seq ?_
      refine awp_block ?_
      refine awp_seq_k fun K hK => ?_
      refine awp_region_draw2 (fun x => x ≠ b1) [(0, 1), (1, 3), (2, 1), (3, 3), (4, 3), (5, 3), (6, 1), (7, 3), (8, 1), (9, 3), (10, 3), (11, 3), (12, 1), (13, 1), (14, 3)] [] draws (by kernel_rfl) rfl rfl ?_
      simp only [emitF, markOf, EM, f1, f4, hb1, List.length_map, hg, RR, seval]
      refine awpC_pure' (hk) ?_
      simp only [emitF, markOf, EM, f1, f4, hb1, List.length_map, hg, RR, seval]
      refine hK _ _ ?_; clear hK K
      refine awp_if _ rfl (fun hc9 => ?_) (fun hc9 => ?_)
      · refine awp_seq_k fun K hK => ?_
        refine awp_region rfl ?_
        simp only [List.length_map, hg, RR, seval]
        refine hK _ _ ?_; clear hK K
        refine awp_ret ?_; simp only [bodyQ, aresult, ares, List.length_map, hg, RR, seval]
        refine Gives.pure ?_
        rw [hX, if_neg (by rw [hall2, show KK = false by simpa using hc9]; simp)]
      · refine awp_skip ?_; try simp only [RR]
        refine awp_region rfl ?_
        simp only [f4, List.length_map, hg, RR, seval]
        try rw [IntWalk.i64_in _ (by omega)]
        refine hK2 _ _ hlt2 ⟨by first | rfl | (simp only [upd_app, seval]; rfl), (by first | exact e2_b1 | (simp only [upd_app, seval]; first | done | exact e2_b1)), by rw [hall2, show KK = true by simpa using hc9, Bool.true_and]⟩ (by repeat (first | exact ag2 | refine agree.upd rfl ?_))
    · have hkn2 : j = fs.length := by have := of_decide_eq_false hc; omega
      clear hc
      refine awp_exit ?_; simp only [RR, seval]
      refine awp_seq_k fun K hK => ?_
      refine awp_region rfl ?_
      simp only [List.length_map, RR, seval]
      refine hK _ _ ?_; clear hK K
      refine awp_ret ?_; simp only [bodyQ, aresult, ares, List.length_map, RR, seval]
      refine Gives.pure ?_
      rw [hX, if_pos (by rw [hall2, hkn2, List.drop_length]; rfl)]
theorem rSound_con' (p : Pg) (hp : p.ok) (hpar : ∀ f ∈ p.funs, f.params.length ≤ 1100000) (hfew : rightP p = true → p.few) : PCon env 27 [p.av] (.int .i64 (soundT p)) := by
  have hR := Right_con p hp hpar
  have h1 : rightP p = true → 1 ≤ p.funs.length := fun h => by
    simp only [rightP, Bool.and_eq_true, decide_eq_true_eq] at h
    exact h.1.1.1.2
  have hC := fun h => rCheck_con p (hfew h) (h1 h)
  have hT := rCheckT_con p hp
  clear hfew hpar
  have hX : soundT p = if rightP p = true then (if checkI p = 0 then checkT p else checkI p) else 7 := rfl
  generalize soundT p = res at *
  generalize checkT p = ct at *
  generalize checkI p = ci at *
  generalize rightP p = rp at *
  simp only [Pg.av, Pg.row] at *
  cases rp with
  | false =>
    refine con_of 14 [.tmp 2] Try.func27 rfl rfl rfl rfl ?_
    refine awp_seq_k fun K hK => ?_
    refine awp_region rfl ?_
    simp only [RR, seval]
    refine awpN_intro fun b1 hn1 => ?_
    simp only [RR, seval]
    refine hK _ _ ?_; clear hK K
    refine awp_seq ?_
    refine awp_seq_k fun K hK => ?_
    refine awp_region rfl ?_
    simp only [RR, seval]
    refine awpC_pure' (hR) ?_
    simp only [RR, seval]
    refine hK _ _ ?_; clear hK K
    refine awp_if true rfl (fun _ => ?_) (fun hc => by cases hc)
    refine awp_seq_k fun K hK => ?_
    refine awp_region rfl ?_
    simp only [RR, seval]
    refine hK _ _ ?_; clear hK K
    refine awp_ret ?_; simp only [bodyQ, aresult, ares, RR, seval]
    refine Gives.pure ?_
    rw [hX]
    rfl
  | true =>
    have hC := hC rfl
    rw [if_pos rfl] at hX
    refine con_of 14 [.tmp 2] Try.func27 rfl rfl rfl rfl ?_
    refine awp_seq_k fun K hK => ?_
    refine awp_region rfl ?_
    simp only [RR, seval]
    refine awpN_intro fun b1 hn1 => ?_
    simp only [RR, seval]
    refine hK _ _ ?_; clear hK K
    refine awp_seq ?_
    refine awp_seq_k fun K hK => ?_
    refine awp_region rfl ?_
    simp only [RR, seval]
    refine awpC_pure' (hR) ?_
    simp only [RR, seval]
    refine hK _ _ ?_; clear hK K
    refine awp_if false rfl (fun hc => by cases hc) (fun _ => ?_)
    refine awp_skip ?_; try simp only [RR]
    refine awp_seq_k fun K hK => ?_
    refine awp_region rfl ?_
    simp only [RR, seval]
    refine awpC_pure' (hC) ?_
    simp only [RR, seval]
    refine hK _ _ ?_; clear hK K
    refine awp_seq ?_
    refine awp_seq_k fun K hK => ?_
    refine awp_region rfl ?_
    simp only [RR, seval]
    refine hK _ _ ?_; clear hK K
    refine awp_if _ rfl (fun hc4 => ?_) (fun hc4 => ?_)
    · refine awp_seq_k fun K hK => ?_
      refine awp_region rfl ?_
      simp only [RR, seval]
      refine hK _ _ ?_; clear hK K
      refine awp_ret ?_; simp only [bodyQ, aresult, ares, RR, seval]
      refine Gives.pure ?_
      rw [hX, if_neg (by simpa using hc4)]
    · refine awp_skip ?_; try simp only [RR]
      refine awp_seq_k fun K hK => ?_
      refine awp_region rfl ?_
      simp only [RR, seval]
      refine awpC_pure' (hT) ?_
      simp only [RR, seval]
      refine hK _ _ ?_; clear hK K
      refine awp_ret ?_; simp only [bodyQ, aresult, ares, RR, seval]
      refine Gives.pure ?_
      rw [hX, if_pos (by simpa using hc4)]
theorem rSound_con (p : Pg) (hp : p.few) : PCon env 27 [p.av] (.int .i64 (soundT p)) := rSound_con' p hp.ok (fun f hf => by have := hp.fs f hf; omega) fun _ => hp
end Go.Proofs.Ytlokndnkpleegaa
