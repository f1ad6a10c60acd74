/- Chapter 18, the program's: statements one behind the other; a loop. -/
import Derived.Test.YtlokndnkpleegaaM18l
set_option linter.unusedSimpArgs false
set_option linter.unusedVariables false
set_option maxRecDepth 10000
namespace Go.Proofs.Ytlokndnkpleegaa
open Go.Al
section
variable {cx : Cx} {r v : Nat} {abs : List Nat} {n : Nat}
set_option maxHeartbeats 2000000 in
theorem do_step (ih : PrgC cx r v abs n) (rs : Str → Bool × Int) (ow : List Int) (l : List Sm) (st : RS) (vo : AV) (H : Hp) (bo : Nat) (o : Rz (Option Int × List Int)) (hl : okS l) (hR : RunH cx r v abs st vo H) (hO : OwnB v abs vo bo (ow.map rowU) H) (hu : ∀ x ∈ ow, u32R x) (h : evL cx (n + 1) rs ow l st = some o) :
    Con env 34 [.ptr 8 r 0 0, .isl 6 (l.map (cS rs)), .osl 1 bo ow.length] H (postS cx r v abs vo bo ow.length H o) := by
  have hfit := hl.fit
  simp only [fitL] at hfit
  obtain ⟨HX, hHX⟩ : ∃ X, X = H := ⟨_, rfl⟩
  obtain ⟨w, hw⟩ : ∃ w, w = ow.length := ⟨_, rfl⟩
  rw [← hw]
  refine con_of 28 [.tmp 6, .tmp 7] Try.func34 rfl rfl rfl rfl ?_
  refine awp_seq_k fun K hK => ?_
  refine awp_region rfl ?_
  simp only [List.length_map, RR, seval]
  refine hK _ _ ?_; clear hK K
  refine awp_seq ?_
  refine awp_seq_k fun K hK => ?_
  refine awp_region rfl ?_
  simp only [List.length_map, RR, seval]
  refine hK _ _ ?_; clear hK K
  refine awp_name fun F1 M1 hfr hH => ?_
  have g0 := hfr 0
  have g1 := hfr 1
  have g2 := hfr 2
  have g6 := hfr 6
  have g7 := hfr 7
  have g12 := hfr 12
  have g13 := hfr 13
  try simp only [List.length_map, RR, seval] at g0 g1 g2 g6 g7 g12 g13
  have hM := funext hH
  have f0 := g0; clear g0
  have f1 := g1; clear g1
  have f2 := g2; clear g2
  have f6 := g6; clear g6
  have f7 := g7; clear g7
  have f12 := g12; clear g12
  have f13 := g13; clear g13
  clear hfr hH
  refine awp_block ?_
  refine awp_each [0, 1, 2, 12] (l.length) (fun k fr M => fr 13 = .int .i64 (k : Nat) ∧ ∃ stk vok owk m, m ≤ n + 1 ∧ evL cx m rs owk (l.drop k) stk = some o ∧ owk.length = w ∧ (∀ x ∈ owk, u32R x) ∧ RunH cx r v abs stk vok M ∧ OwnB v abs vok bo (owk.map rowU) M ∧ keepsS r v abs vo vok bo HX M) ⟨f13, st, vo, ow, n + 1, Nat.le_refl _, h, hw.symm, hu, (by rw [hM]; exact hR), (by rw [hM]; exact hO), (by rw [hM, hHX]; exact (keepsR.refl _ _ _ _ _).s _)⟩ ?_
  rintro k F2 M2 hk0 ⟨fx, ⟨stk, vok, owk, m, hmn, hLk, hwk, huk, hRk, hOk, hkp⟩⟩ agx K0 hK0
  have f0 := (agx 0 rfl).trans f0
  have f1 := (agx 1 rfl).trans f1
  have f2 := (agx 2 rfl).trans f2
  have f12 := (agx 12 rfl).trans f12
  have f13 := fx; clear fx
  have ag0 := agree.refl [0, 1, 2, 12] F2
  clear agx
  clear h
  refine awp_seq_k fun K hK => ?_
  refine awp_region rfl ?_
  simp only [f12, f13, List.length_map, RR, seval]
  refine hK _ _ ?_; clear hK K
  refine awp_seq ?_
  refine awp_if _ rfl (fun hc => ?_) (fun hc => ?_)
  · have hlt0 : k < l.length := by have := of_decide_eq_true hc; omega
    clear hc
    have hg0 := List.getElem?_eq_getElem hlt0
    have hdk : l.drop k = l[k] :: l.drop (k + 1) := List.drop_eq_getElem_cons hlt0
    generalize l[k] = a at hg0 hdk
    have hg := cS_get (rs := rs) hg0
    rw [hdk] at hLk
    obtain ⟨m', rfl⟩ : ∃ m', m = m' + 1 := by
      cases m with
      | zero => simp [evL] at hLk
      | succ m' => exact ⟨m', rfl⟩
    simp only [evL] at hLk
    obtain ⟨r1, h1⟩ : ∃ r1, evS cx m' rs owk a stk = some r1 := by
      cases h1 : evS cx m' rs owk a stk with
      | none => rw [h1] at hLk; cases hLk
      | some r1 => exact ⟨r1, rfl⟩
    rw [h1] at hLk
    have hS := ih.S rs owk a stk vok _ bo r1 (hl.all _ (List.mem_of_getElem? hg0)) hRk hOk huk (evS_deep (by omega) h1)
    rw [hwk] at hS
    refine awp_skip ?_; try simp only [RR]
    refine awp_seq ?_
    refine awp_block ?_
    refine awp_seq_k fun K hK => ?_
    refine awp_region rfl ?_
    simp only [f13, List.length_map, hg, RR, seval]
    refine hK _ _ ?_; clear hK K
    refine awp_seq_k fun K hK => ?_
    refine awp_region rfl ?_
    simp only [f0, f1, f2, List.length_map, hg, RR, seval]
    refine awpC_S hS (fun _ => trivial) ?_ ?_
    · rintro e s vo1 H1 e1 hR1 hk1
      subst e1
      obtain rfl := Option.some.inj (show some (Rz.fin e s) = some o from hLk)
      simp only [thenQ_pan, blockQ_pan, bodyQ_pan]
      have hkk := hkp.trans hk1
      rw [hHX] at hkk
      exact ⟨vo1, rfl, hR1, hkk⟩
    intro p s1 vo1 H1 e1 up hwp hup hO1 hR1 hk1
    subst e1
    obtain ⟨p1, p2⟩ := p
    simp only [bindR] at hLk
    simp only at up hwp hup hO1
    have hkk := hkp.trans hk1
    simp only [RR, seval]
    refine hK _ _ ?_; clear hK K
    refine awp_seq_k fun K hK => ?_
    refine awp_region rfl ?_
    simp only [List.length_map, hg, RR, seval]
    refine hK _ _ ?_; clear hK K
    refine awp_if _ rfl (fun hc5 => ?_) (fun hc5 => ?_)
    · obtain ⟨x, rfl⟩ := Option.isSome_iff_exists.1 hc5
      obtain rfl := Option.some.inj hLk
      rw [hHX] at hkk
      refine awp_seq_k fun K hK => ?_
      refine awp_region rfl ?_
      simp only [List.length_map, hg, RR, seval]
      refine hK _ _ ?_; clear hK K
      refine awp_ret ?_; simp only [bodyQ, aresult, ares, List.length_map, hg, RR, seval]
      exact Gives.run ⟨vo1, ⟨rfl, up, hwp, hup, hO1⟩, hR1, hkk⟩
    · obtain rfl : p1 = none := by cases p1 with | none => rfl | some x => cases hc5
      simp only at hLk
      refine awp_skip ?_; try simp only [RR]
      refine awp_region rfl ?_
      simp only [f13, List.length_map, hg, RR, seval]
      try rw [IntWalk.i64_in _ (by omega)]
      refine hK0 _ _ hlt0 ⟨by first | rfl | (simp only [upd_app, seval]; rfl), s1, vo1, p2, m', (by omega), hLk, hwp, hup, hR1, hO1, hkk⟩ (by repeat (first | exact ag0 | refine agree.upd rfl ?_))
  · have hkn0 : k = l.length := by have := of_decide_eq_false hc; omega
    clear hc
    rw [hkn0, List.drop_length] at hLk
    obtain rfl : o = .val (none, owk) stk := by
      cases m with
      | zero => simp [evL] at hLk
      | succ m' =>
        simp only [evL, Option.some.injEq] at hLk
        exact hLk.symm
    rw [hHX] at hkp
    refine awp_exit ?_; simp only [RR, seval]
    refine awp_seq_k fun K hK => ?_
    refine awp_region rfl ?_
    simp only [List.length_map, RR, seval]
    refine hK _ _ ?_; clear hK K
    refine awp_ret ?_; simp only [bodyQ, aresult, ares, List.length_map, RR, seval]
    exact Gives.run ⟨vok, ⟨rfl, by simp [u32R], hwk, huk, hOk⟩, hRk, hkp⟩
set_option maxHeartbeats 2000000 in
theorem while_step (ih : PrgC cx r v abs n) (hx : CxOk cx) (rs : Str → Bool × Int) (ow : List Int) (e : Sm) (c : Ex) (st : RS) (vo : AV) (H : Hp) (bo : Nat) (o : Rz (Option Int × List Int)) (he : e.ok) (hc : e.es[0]? = some c) (hR : RunH cx r v abs st vo H) (hO : OwnB v abs vo bo (ow.map rowU) H) (hu : ∀ x ∈ ow, u32R x) (h : evW cx (n + 1) rs ow c e.thn st = some o) :
    Con env 68 [.ptr 8 r 0 0, .ipt (cS rs e) 0, .osl 1 bo ow.length] H (postS cx r v abs vo bo ow.length H o) := by
  obtain ⟨HX, hHX⟩ : ∃ X, X = H := ⟨_, rfl⟩
  obtain ⟨w, hw⟩ : ∃ w, w = ow.length := ⟨_, rfl⟩
  rw [← hw]
  have hg0 := cE_get (rs := rs) hc
  have hcok := he.es.all _ (List.mem_of_getElem? hc)
  have hthn := he.thn
  rw [cS_eq]
  generalize e.kind = kk at *
  generalize (rs e.name).1 = pl at *
  generalize (rs e.name).2 = pn at *
  generalize e.es = es at *
  generalize e.thn = thn at *
  generalize e.els = els at *
  refine con_of 33 [.tmp 6, .tmp 7] Try.func68 rfl rfl rfl rfl ?_
  refine awp_seq_k fun K hK => ?_
  refine awp_region rfl ?_
  simp only [hg0, RR, seval]
  refine hK _ _ ?_; clear hK K
  refine awp_name fun F1 M1 hfr hH => ?_
  have g0 := hfr 0
  have g1 := hfr 1
  have g2 := hfr 2
  have g6 := hfr 6
  have g7 := hfr 7
  try simp only [hg0, RR, seval] at g0 g1 g2 g6 g7
  have hM := funext hH
  have f0 := g0; clear g0
  have f1 := g1; clear g1
  have f2 := g2; clear g2
  have f6 := g6; clear g6
  have f7 := g7; clear g7
  clear hfr hH
  refine awp_block ?_
  refine awp_while [0, 1, 2] (n + 1) (fun k fr M => ∃ stk vok owk, k ≤ n + 1 ∧ evW cx k rs owk c thn stk = some o ∧ owk.length = w ∧ (∀ x ∈ owk, u32R x) ∧ RunH cx r v abs stk vok M ∧ OwnB v abs vok bo (owk.map rowU) M ∧ keepsS r v abs vo vok bo HX M) ⟨st, vo, ow, Nat.le_refl _, h, hw.symm, hu, (by rw [hM]; exact hR), (by rw [hM]; exact hO), (by rw [hM, hHX]; exact (keepsR.refl _ _ _ _ _).s _)⟩ ?_
  rintro k F2 M2 ⟨stk, vok, owk, hmn, hLk, hwk, huk, hRk, hOk, hkp⟩ agx K0 hK0
  have f0 := (agx 0 rfl).trans f0
  have f1 := (agx 1 rfl).trans f1
  have f2 := (agx 2 rfl).trans f2
  have ag0 := agree.refl [0, 1, 2] F2
  clear agx
  clear h
  obtain ⟨m', rfl⟩ : ∃ m', k = m' + 1 := by
    cases k with
    | zero => simp [evW] at hLk
    | succ m' => exact ⟨m', rfl⟩
  simp only [evW] at hLk
  have hT := tick_con hx hRk
  generalize hTT : tickR cx stk = tt at hLk hT
  refine awp_block ?_
  refine awp_seq_k fun K hK => ?_
  refine awp_region rfl ?_
  simp only [f0, hg0, RR, seval]
  refine awpC_G hT (fun _ => trivial) ?_ ?_
  · rintro e s vo1 H1 e1 hR1 hk1
    subst e1
    obtain rfl := Option.some.inj (show some (Rz.fin e s) = some o from hLk)
    simp only [thenQ_pan, blockQ_pan, bodyQ_pan]
    have hkk := hkp.trans (hk1.s bo)
    rw [hHX] at hkk
    exact ⟨vo1, rfl, hR1, hkk⟩
  intro _ s1 vo1 H1 e1 _ hR1 hk1
  subst e1
  simp only [bindR] at hLk
  have hO1 := hOk.keep hRk hk1
  obtain ⟨r1, h1⟩ : ∃ r1, evE cx m' rs owk c s1 = some r1 := by
    cases h1 : evE cx m' rs owk c s1 with
    | none => rw [h1] at hLk; cases hLk
    | some r1 => exact ⟨r1, rfl⟩
  rw [h1] at hLk
  have hE := ih.V rs owk c s1 vo1 H1 bo r1 hcok hR1 hO1 huk (evE_deep (by omega) h1)
  rw [hwk] at hE
  simp only [RR, seval]
  refine hK _ _ ?_; clear hK K
  refine awp_seq ?_
  refine awp_seq_k fun K hK => ?_
  refine awp_region rfl ?_
  simp only [f0, f1, f2, hg0, RR, seval]
  refine awpC_G hE (fun _ => trivial) ?_ ?_
  · rintro e s vo2 H2 e1 hR2 hk2
    subst e1
    obtain rfl := Option.some.inj (show some (Rz.fin e s) = some o from hLk)
    simp only [thenQ_pan, blockQ_pan, bodyQ_pan]
    have hkk := hkp.trans ((hk1.trans hk2).s bo)
    rw [hHX] at hkk
    exact ⟨vo2, rfl, hR2, hkk⟩
  intro x s2 vo2 H2 e1 ux hR2 hk2
  subst e1
  simp only [bindR] at hLk
  have hO2 := hO1.keep hR1 hk2
  simp only [RR, seval]
  refine hK _ _ ?_; clear hK K
  refine awp_if _ rfl (fun hc2 => ?_) (fun hc2 => ?_)
  · rw [if_pos (of_decide_eq_true hc2)] at hLk
    obtain rfl := Option.some.inj hLk
    have hkk := hkp.trans ((hk1.trans hk2).s bo)
    rw [hHX] at hkk
    refine awp_seq_k fun K hK => ?_
    refine awp_region rfl ?_
    simp only [hg0, RR, seval]
    refine hK _ _ ?_; clear hK K
    refine awp_ret ?_; simp only [bodyQ, aresult, ares, hg0, RR, seval]
    exact Gives.run ⟨vo2, ⟨rfl, by simp [u32R], hwk, huk, hO2⟩, hR2, hkk⟩
  · rw [if_neg (of_decide_eq_false hc2)] at hLk
    obtain ⟨r2, h2⟩ : ∃ r2, evL cx m' rs owk thn s2 = some r2 := by
      cases h2 : evL cx m' rs owk thn s2 with
      | none => rw [h2] at hLk; cases hLk
      | some r2 => exact ⟨r2, rfl⟩
    rw [h2] at hLk
    have hL := ih.L rs owk thn s2 vo2 H2 bo r2 hthn hR2 hO2 huk (evL_deep (by omega) h2)
    rw [hwk] at hL
    refine awp_skip ?_; try simp only [RR]
    refine awp_seq_k fun K hK => ?_
    refine awp_region rfl ?_
    simp only [f0, f1, f2, hg0, RR, seval]
    refine awpC_S hL (fun _ => trivial) ?_ ?_
    · rintro e s vo3 H3 e1 hR3 hk3
      subst e1
      obtain rfl := Option.some.inj (show some (Rz.fin e s) = some o from hLk)
      simp only [thenQ_pan, blockQ_pan, bodyQ_pan]
      have hkk := (hkp.trans ((hk1.trans hk2).s bo)).trans hk3
      rw [hHX] at hkk
      exact ⟨vo3, rfl, hR3, hkk⟩
    intro p s3 vo3 H3 e1 up hwp hup hO3 hR3 hk3
    subst e1
    obtain ⟨p1, p2⟩ := p
    simp only [bindR] at hLk
    simp only at up hwp hup hO3
    have hkk := (hkp.trans ((hk1.trans hk2).s bo)).trans hk3
    simp only [RR, seval]
    refine hK _ _ ?_; clear hK K
    refine awp_seq_k fun K hK => ?_
    refine awp_region rfl ?_
    simp only [hg0, RR, seval]
    refine hK _ _ ?_; clear hK K
    refine awp_if _ rfl (fun hc5 => ?_) (fun hc5 => ?_)
    · obtain ⟨x, rfl⟩ := Option.isSome_iff_exists.1 hc5
      obtain rfl := Option.some.inj hLk
      rw [hHX] at hkk
      refine awp_seq_k fun K hK => ?_
      refine awp_region rfl ?_
      simp only [hg0, RR, seval]
      refine hK _ _ ?_; clear hK K
      refine awp_ret ?_; simp only [bodyQ, aresult, ares, hg0, RR, seval]
      exact Gives.run ⟨vo3, ⟨rfl, up, hwp, hup, hO3⟩, hR3, hkk⟩
    · obtain rfl : p1 = none := by cases p1 with | none => rfl | some x => cases hc5
      simp only at hLk
      refine awp_skip ?_; try simp only [RR]
      refine hK0 (m') _ _ (by omega) ⟨s3, vo3, p2, (by omega), hLk, hwp, hup, hR3, hO3, hkk⟩ (by repeat (first | exact ag0 | refine agree.upd rfl ?_))
end
end Go.Proofs.Ytlokndnkpleegaa
