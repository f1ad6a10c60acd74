/- Chapter 14, the judge's: may a program be? Second part. -/
import Derived.Test.YtlokndnkpleegaaF14d
set_option linter.unusedSimpArgs false
set_option linter.unusedVariables false
set_option maxRecDepth 10000
namespace Go.Proofs.Ytlokndnkpleegaa
open Go.Al
set_option maxHeartbeats 4000000 in
theorem Right_con (p : Pg) (hp : p.ok) (hsize : ∀ f ∈ p.funs, f.params.length ≤ 1100000) : PCon env 23 [p.av] (.bool (rightP p)) := by
  have fv : p.vars.length ≤ 9223372036854775807 := hp.vars.fit
  have fa : p.arrs.length ≤ 9223372036854775807 := hp.afit
  have ff : p.funs.length ≤ 9223372036854775807 := hp.ffit
  have hnv := names14_con p.vars hp.vars
  obtain ⟨vs, aa, fs⟩ := p
  simp only at fv fa ff hnv
  simp only [Pg.av, Pg.row]
  refine con_of 95 [.tmp 2] Try.func23 rfl rfl rfl rfl ?_
  refine awp_cutK (fun fr H => ∃ b, fr 1 = .ptr 3 b 0 0 ∧ H b = some (.rows 3 [[.isl 1 (vs.map strRow), .isl 2 (aa.map Ar.row), .isl 5 (fs.map Fu.row)]])) (fun K hK => ?_) ?_
  · refine awp_region rfl ?_; simp only [RR, seval]
    refine awpN_intro fun b hb => ?_; simp only [RR, seval]
    exact hK _ _ ⟨b, rfl, upd_same _ _ _⟩
  rintro fr H ⟨b, h2, hb⟩
  have hR : rightP ⟨vs, aa, fs⟩ = ((vs.all nameB && decide (1 ≤ fs.length) && decide (fs.length ≤ 64)) && aa.all rightA && fs.all rightF) := rfl
  generalize rightP ⟨vs, aa, fs⟩ = res at hR ⊢
  refine awp_seq ?_
  refine awp_cutK (fun fr H => ∃ t, fr 21 = .bool t ∧ (t = !(vs.all nameB && decide (1 ≤ fs.length) && decide (fs.length ≤ 64))) ∧ fr 1 = .ptr 3 b 0 0 ∧ H b = some (.rows 3 [[.isl 1 (vs.map strRow), .isl 2 (aa.map Ar.row), .isl 5 (fs.map Fu.row)]])) (fun K hK => ?_) ?_
  · have d1 : decide ((fs.length : Int) < 1) = !decide (1 ≤ fs.length) := by rw [Bool.eq_iff_iff]; simp only [decide_eq_true_eq, Bool.not_eq_true', decide_eq_false_iff_not]; omega
    have d2 : decide ((64 : Int) < fs.length) = !decide (fs.length ≤ 64) := by rw [Bool.eq_iff_iff]; simp only [decide_eq_true_eq, Bool.not_eq_true', decide_eq_false_iff_not]; omega
    refine awp_region rfl ?_; simp only [RR, seval]
    simp only [h2, hb, RR, seval]
    refine awpC_pure' hnv ?_; simp only [RR, seval]
    cases hv : vs.all nameB with
    | false =>
      simp only [h2, hb, RR, seval]
      exact hK _ _ ⟨_, rfl, by rw [hv]; rfl, h2, hb⟩
    | true =>
      simp only [h2, hb, List.length_map, d1, d2, RR, seval]
      cases h1 : decide (1 ≤ fs.length) with
      | false =>
        simp only [h2, hb, List.length_map, d1, d2, RR, seval]
        exact hK _ _ ⟨_, rfl, by rw [hv, h1]; rfl, h2, hb⟩
      | true =>
        simp only [h2, hb, List.length_map, d1, d2, RR, seval]
        exact hK _ _ ⟨_, rfl, by rw [hv, h1]; rfl, h2, hb⟩
  rintro fr H ⟨t, h21, ht, h2, hb⟩
  refine awp_if _ h21 (fun hc => ?_) (fun hc => ?_)
  · have := bneg ht hc
    refine awp_seq_k fun K hK => ?_; refine awp_region rfl ?_; simp only [RR, seval]
    refine hK _ _ ?_; clear hK K
    refine awp_ret ?_; simp only [thenQ, blockQ, bodyQ, aresult, ares, argF, RR, seval]; refine Gives.pure ?_
    rw [hR, this]; rfl
  have h3 := bpos ht hc
  rw [h3, Bool.true_and] at hR
  clear ht hc h21 t
  refine awp_skip ?_; simp only [thenQ, blockQ]
  refine awp_cutK (fun fr H => aa.all rightA = true ∧ fr 1 = .ptr 3 b 0 0 ∧ H b = some (.rows 3 [[.isl 1 (vs.map strRow), .isl 2 (aa.map Ar.row), .isl 5 (fs.map Fu.row)]])) (fun K hK => ?_) ?_
  · refine awp_seq_k fun K hK => ?_; refine awp_region rfl ?_; simp only [RR, seval]
    refine hK _ _ ?_; clear hK K
    refine awp_block ?_
    refine awp_loopK (fun mm fr H => ∃ k : Nat, mm = aa.length - k ∧ k ≤ aa.length ∧ fr 3 = .int .i64 k ∧ aa.all rightA = (aa.drop k).all rightA ∧ fr 1 = .ptr 3 b 0 0 ∧ H b = some (.rows 3 [[.isl 1 (vs.map strRow), .isl 2 (aa.map Ar.row), .isl 5 (fs.map Fu.row)]])) (aa.length) ⟨0, rfl, Nat.zero_le _, rfl, by rw [List.drop_zero], h2, hb⟩ ?_
    rintro mm fr H ⟨k, rfl, hkk, hik, hall, h2, hb⟩ K2 hK2
    refine awp_seq ?_
    refine awp_seq_k fun K hK => ?_; refine awp_region rfl ?_; simp only [RR, seval]
    simp only [hik, h2, hb,List.length_map, RR, seval]
    refine hK _ _ ?_; clear hK K
    refine awp_if _ rfl (fun hc => ?_) (fun hc => ?_)
    · have hltk : k < aa.length := by have := of_decide_eq_true hc; omega
      clear hc
      refine awp_skip ?_; simp only [thenQ, blockQ]
      refine awp_seq ?_
      refine awp_block ?_
      have hg := getA (List.getElem?_eq_getElem hltk)
      have hoka := hp.arrs _ (List.getElem_mem hltk)
      rw [List.drop_eq_getElem_cons hltk, List.all_cons] at hall
      generalize aa[k] = a at hg hall hoka
      have hcon := IsName_con a.name hoka.1
      have d1 : decide (a.size < 1) = !decide (1 ≤ a.size) := by rw [Bool.eq_iff_iff]; simp only [decide_eq_true_eq, Bool.not_eq_true', decide_eq_false_iff_not]; omega
      have d2 : decide (4096 < a.size) = !decide (a.size ≤ 4096) := by rw [Bool.eq_iff_iff]; simp only [decide_eq_true_eq, Bool.not_eq_true', decide_eq_false_iff_not]; omega
      refine awp_cutK (fun fr H => fr 54 = .bool (!rightA a) ∧ fr 3 = .int .i64 k ∧ fr 1 = .ptr 3 b 0 0 ∧ H b = some (.rows 3 [[.isl 1 (vs.map strRow), .isl 2 (aa.map Ar.row), .isl 5 (fs.map Fu.row)]])) (fun K hK => ?_) ?_
      · refine awp_region rfl ?_; simp only [RR, seval]
        simp only [h2, hb, hik, hg, RR, seval]
        refine awpC_pure' hcon ?_; simp only [RR, seval]
        cases hv : nameB a.name with
        | false =>
          simp only [h2, hb, hik, hg, RR, seval]
          exact hK _ _ ⟨by simp only [rightA, hv]; rfl, hik, h2, hb⟩
        | true =>
          simp only [h2, hb, hik, hg, d1, d2, RR, seval]
          cases h1 : decide (1 ≤ a.size) with
          | false =>
            simp only [h2, hb, hik, hg, d1, d2, RR, seval]
            exact hK _ _ ⟨by simp only [rightA, hv, h1]; rfl, hik, h2, hb⟩
          | true =>
            simp only [h2, hb, hik, hg, d1, d2, RR, seval]
            exact hK _ _ ⟨by simp only [rightA, hv, h1]; rfl, hik, h2, hb⟩
      · rintro fr H ⟨h54, hik, h2, hb⟩
        refine awp_if (!rightA a) h54 (fun hc => ?_) (fun hc => ?_)
        · refine awp_seq_k fun K hK => ?_; refine awp_region rfl ?_; simp only [RR, seval]
          refine hK _ _ ?_; clear hK K
          refine awp_ret ?_; simp only [thenQ, blockQ, bodyQ, aresult, ares, argF, RR, seval]; refine Gives.pure ?_
          rw [hR, hall, show rightA a = false by simpa using hc]; rfl
        · refine awp_skip ?_; simp only [thenQ, blockQ]
          rw [show rightA a = true by simpa using hc, Bool.true_and] at hall
          refine awp_region rfl ?_; simp only [RR, seval]
          simp only [hik, thenQ, blockQ, RR, seval]
          rw [IntWalk.i64_in _ (by omega)]
          refine hK2 (aa.length - (k + 1)) _ _ (by omega) ⟨k + 1, rfl, by omega, rfl, hall, h2, hb⟩
    · refine awp_exit ?_; simp only [thenQ, blockQ, reduceIte, Nat.reduceEqDiff]
      have hknk : k = aa.length := by have := of_decide_eq_false hc; omega
      clear hc
      subst hknk
      rw [List.drop_length] at hall
      exact hK _ _ ⟨hall, h2, hb⟩
  rintro fr H ⟨hall, h2, hb⟩
  rw [hall, Bool.true_and] at hR
  refine awp_cutK (fun fr H => fs.all rightF = true) (fun K hK => ?_) ?_
  · refine awp_seq_k fun K hK => ?_; refine awp_region rfl ?_; simp only [RR, seval]
    refine hK _ _ ?_; clear hK K
    refine awp_block ?_
    refine awp_loopK (fun mm fr H => ∃ k : Nat, mm = fs.length - k ∧ k ≤ fs.length ∧ fr 4 = .int .i64 k ∧ fs.all rightF = (fs.drop k).all rightF ∧ fr 1 = .ptr 3 b 0 0 ∧ H b = some (.rows 3 [[.isl 1 (vs.map strRow), .isl 2 (aa.map Ar.row), .isl 5 (fs.map Fu.row)]])) (fs.length) ⟨0, rfl, Nat.zero_le _, rfl, by rw [List.drop_zero], h2, hb⟩ ?_
    rintro mm fr H ⟨k, rfl, hkk, hik, hall2, h2, hb⟩ K2 hK2
    refine awp_seq ?_
    refine awp_seq_k fun K hK => ?_; refine awp_region rfl ?_; simp only [RR, seval]
    simp only [hik, h2, hb,List.length_map, RR, seval]
    refine hK _ _ ?_; clear hK K
    refine awp_if _ rfl (fun hc => ?_) (fun hc => ?_)
    · have hltk : k < fs.length := by have := of_decide_eq_true hc; omega
      clear hc
      refine awp_skip ?_; simp only [thenQ, blockQ]
      refine awp_seq ?_
      refine awp_block ?_
      have hg := getF (List.getElem?_eq_getElem hltk)
      have hokf := hp.funs _ (List.getElem_mem hltk)
      have hsz := hsize _ (List.getElem_mem hltk)
      rw [List.drop_eq_getElem_cons hltk, List.all_cons] at hall2
      generalize fs[k] = f at hg hall2 hokf hsz
      refine awp_seq_k fun K hK => ?_; refine awp_region rfl ?_; simp only [RR, seval]
      simp only [h2, hb, hik, hg, RR, seval]
      refine awpN_intro fun b1 hb1 => ?_
      simp only [RR, seval]
      refine hK _ _ ?_; clear hK K
      have hne : b ≠ b1 := fun e => by rw [e, hb1] at hb; cases hb
      have hH1 : (upd (upd H b1 (some (.rows 5 [[.str [], .nsl, .nsl, .bool false, .nsl]]))) b1 (some (.rows 5 [[.str f.name, .isl 1 (f.params.map strRow), .isl 1 (f.locs.map strRow), .bool f.word, .isl 5 (f.body.map Sm.row)]]))) b1 = some (.rows 5 [[.str f.name, .isl 1 (f.params.map strRow), .isl 1 (f.locs.map strRow), .bool f.word, .isl 5 (f.body.map Sm.row)]]) := upd_same _ _ _
      have hHb : (upd (upd H b1 (some (.rows 5 [[.str [], .nsl, .nsl, .bool false, .nsl]]))) b1 (some (.rows 5 [[.str f.name, .isl 1 (f.params.map strRow), .isl 1 (f.locs.map strRow), .bool f.word, .isl 5 (f.body.map Sm.row)]]))) b = some (.rows 3 [[.isl 1 (vs.map strRow), .isl 2 (aa.map Ar.row), .isl 5 (fs.map Fu.row)]]) := by simp only [upd, if_neg hne]; exact hb
      generalize (upd (upd H b1 (some (.rows 5 [[.str [], .nsl, .nsl, .bool false, .nsl]]))) b1 (some (.rows 5 [[.str f.name, .isl 1 (f.params.map strRow), .isl 1 (f.locs.map strRow), .bool f.word, .isl 5 (f.body.map Sm.row)]]))) = H1 at hH1 hHb ⊢
      have c0 := IsName_con f.name hokf.name
      have c1 := names14_con f.params hokf.params
      have c2 := names14_con f.locs hokf.locs
      have c3 := RightStmts_con _ f.body 1 rfl hokf.body (by omega) (by omega)
      have d1 : decide ((6 : Int) < f.params.length) = !decide (f.params.length ≤ 6) := by rw [Bool.eq_iff_iff]; simp only [decide_eq_true_eq, Bool.not_eq_true', decide_eq_false_iff_not]; omega
      refine awp_cutK (fun fr H => fr 94 = .bool (!rightF f) ∧ fr 4 = .int .i64 k ∧ fr 1 = .ptr 3 b 0 0 ∧ H b = some (.rows 3 [[.isl 1 (vs.map strRow), .isl 2 (aa.map Ar.row), .isl 5 (fs.map Fu.row)]])) (fun K hK => ?_) ?_
      · refine awp_region rfl ?_; simp only [RR, seval]
        simp only [hH1, RR, seval]
        refine awpC_pure' c0 ?_; simp only [RR, seval]
        cases v0 : nameB f.name with
        | false =>
          simp only [RR, seval]
          exact hK _ _ ⟨by simp only [rightF, v0]; rfl, hik, h2, hHb⟩
        | true =>
          simp only [hH1, List.length_map, d1, RR, seval]
          cases v1 : decide (f.params.length ≤ 6) with
          | false =>
            simp only [RR, seval]
            exact hK _ _ ⟨by simp only [rightF, v0, v1]; rfl, hik, h2, hHb⟩
          | true =>
            simp only [hH1, RR, seval]
            refine awpC_pure' c1 ?_; simp only [RR, seval]
            cases v2 : f.params.all nameB with
            | false =>
              simp only [RR, seval]
              exact hK _ _ ⟨by simp only [rightF, v0, v1, v2]; rfl, hik, h2, hHb⟩
            | true =>
              simp only [hH1, RR, seval]
              refine awpC_pure' c2 ?_; simp only [RR, seval]
              cases v3 : f.locs.all nameB with
              | false =>
                simp only [RR, seval]
                exact hK _ _ ⟨by simp only [rightF, v0, v1, v2, v3]; rfl, hik, h2, hHb⟩
              | true =>
                simp only [hH1, RR, seval]
                refine awpC_pure' c3 ?_; simp only [RR, seval]
                exact hK _ _ ⟨by simp only [rightF, v0, v1, v2, v3]; rfl, hik, h2, hHb⟩
      · rintro fr H ⟨h94, hik, h2, hb⟩
        refine awp_if (!rightF f) h94 (fun hc => ?_) (fun hc => ?_)
        · refine awp_seq_k fun K hK => ?_; refine awp_region rfl ?_; simp only [RR, seval]
          refine hK _ _ ?_; clear hK K
          refine awp_ret ?_; simp only [thenQ, blockQ, bodyQ, aresult, ares, argF, RR, seval]; refine Gives.pure ?_
          rw [hR, hall2, show rightF f = false by simpa using hc]; rfl
        · refine awp_skip ?_; simp only [thenQ, blockQ]
          rw [show rightF f = true by simpa using hc, Bool.true_and] at hall2
          refine awp_region rfl ?_; simp only [RR, seval]
          simp only [hik, thenQ, blockQ, RR, seval]
          rw [IntWalk.i64_in _ (by omega)]
          refine hK2 (fs.length - (k + 1)) _ _ (by omega) ⟨k + 1, rfl, by omega, rfl, hall2, h2, hb⟩
    · refine awp_exit ?_; simp only [thenQ, blockQ, reduceIte, Nat.reduceEqDiff]
      have hknk : k = fs.length := by have := of_decide_eq_false hc; omega
      clear hc
      subst hknk
      rw [List.drop_length] at hall2
      exact hK _ _ hall2
  rintro fr H h0
  refine awp_seq_k fun K hK => ?_; refine awp_region rfl ?_; simp only [RR, seval]
  refine hK _ _ ?_; clear hK K
  refine awp_ret ?_; simp only [thenQ, blockQ, bodyQ, aresult, ares, argF, RR, seval]; refine Gives.pure ?_
  rw [hR, h0]
end Go.Proofs.Ytlokndnkpleegaa
