/- Chapter 15, the judge's: a function. -/
import Derived.Test.YtlpeikljipknoaaDoorJc
set_option linter.unusedSimpArgs false
set_option linter.unusedVariables false
set_option maxRecDepth 10000
namespace Go.Proofs.YtlpeikljipknoaaDoor
open Go.Al
theorem jstmts_all (r0 : Nat) {T : List Tok} (hT : Sz T) (k : Nat) : ∀ n w, n ≤ T.length → T.length - n ≤ k → jstmtC r0 T n w ∧ jbodyC r0 T n w := by
  induction k using Nat.strongRecOn with
  | _ k ih =>
    intro n w hn hk
    have hs : ∀ w, jstmtC r0 T n w := fun w => jstmt_step r0 hT n w hn fun m w' h1 h2 => (ih (T.length - m) (by omega) m w' h2 (Nat.le_refl _)).2
    refine ⟨hs w, jbody_step r0 hT n w hn fun m w' h1 h2 => ?_⟩
    by_cases c : m = n
    · subst c; exact hs w'
    · exact (ih (T.length - m) (by omega) m w' h2 (Nat.le_refl _)).1
theorem jstmt_con (r0 : Nat) {T : List Tok} (hT : Sz T) (n : Nat) (w : Bool) (hn : n ≤ T.length) : JCon 88 [] r0 T n w smV (stW w n (stmtP T n)) := (jstmts_all r0 hT _ n w hn (Nat.le_refl _)).1
def funL (T : List Tok) (nm : Str) (ps : List Str) (m : Nat) (b : Bool) : PR Fu := (mustI T [123] (if b = true then m + 1 else m)).bind fun _ c => (locP T [] c).bind fun ls c => funB T nm ps b ls c
theorem funK_eq (T : List Tok) (nm : Str) (ps : List Str) (m : Nat) : funK T nm ps m = (mustI T [41] m).bind fun _ m => funL T nm ps m (decide (peekI T m = wWord)) := by
  unfold funK funL
  simp only [decide_eq_true_eq]
def funQ (T : List Tok) (n : Nat) : PR Fu := (takeI T 1 n).bind fun t m => (mustI T [40] m).bind fun _ m =>
  if peekI T m = [41] then funL T t.text [] (m + 1) (decide (peekI T (m + 1) = wWord)) else (namesP T m).bind fun ps m => (mustI T [41] m).bind fun _ m => funL T t.text ps m (decide (peekI T m = wWord))
theorem funP_q (T : List Tok) (n : Nat) : funP T n = (mustI T wFunc n).bind fun _ m => funQ T m := by
  rw [funP_eq]
  refine PR.bind_congr rfl fun _ m _ => PR.bind_congr rfl fun t a _ => PR.bind_congr rfl fun _ c _ => ?_
  simp only [funK_eq]
  by_cases h1 : peekI T c = [41]
  · have hk : ¬ kindI T c = 1 := fun hk => by
      unfold peekI at h1
      unfold kindI at hk
      cases hg : T[c]? with
      | none => rw [hg] at h1; cases h1
      | some t =>
        rw [hg] at h1 hk
        simp only at h1 hk
        rw [if_neg (by omega)] at h1; cases h1
    have e : mustI T [41] c = .ok () (c + 1) := if_pos h1
    rw [if_neg hk, if_pos h1, PR.bind_ok, e, PR.bind_ok]
  · rw [if_neg h1]
    by_cases hk : kindI T c = 1
    · rw [if_pos hk]
    · have e : mustI T [41] c = .bad c := if_neg h1
      have e2 : takeI T 1 c = .bad c := by
        unfold takeI
        unfold kindI at hk
        cases hg : T[c]? with
        | none => rfl
        | some t => rw [hg] at hk; exact if_neg hk
      rw [if_neg hk, PR.bind_ok, e, PR.bind_bad]
      unfold namesP
      rw [e2]; rfl
theorem st_word {α : Type} {T : List Tok} {w : Bool} {m : Nat} {s : Str} {G : Bool → PR α} {res : PR α} (h : stW w m (G (decide (peekI T m = s))) = res) : stW w (if isB T w m s = true then m + 1 else m) (G (isB T w m s)) = res := by
  cases w with
  | true => exact h
  | false => exact h
set_option maxHeartbeats 8000000 in
theorem jfun_con (r0 : Nat) {T : List Tok} (hT : Sz T) (n : Nat) (w : Bool) (hn : n ≤ T.length) : JCon 57 [] r0 T n w fuV (stW w n (funQ T n)) := by
  unfold JCon
  generalize hres : stW w n (funQ T n) = res
  unfold funQ at hres
  have hlen := hT.len
  have hr0 := jdH_at r0 T n w
  refine con_of 51 [.cell 2 57] Tryd.func57 rfl rfl rfl rfl ?_
  refine awp_seq_k fun K hK => ?_
  refine awp_region rfl ?_
  simp only [hr0, List.length_map, strs, smL, smV, one_strs, RR, seval]
  refine awpN_intro fun b2 hn2 => ?_
  have nb2_r0 : b2 ≠ r0 := fun e => by rw [e] at hn2; simp only [hr0, RR, seval, reduceCtorEq] at hn2
  have nr0_b2 : r0 ≠ b2 := fun e => nb2_r0 e.symm
  simp only [hr0, nb2_r0, nr0_b2, List.length_map, strs, smL, smV, one_strs, RR, seval]
  refine hK _ _ ?_; clear hK K
  refine awp_seq_k fun K hK => ?_
  refine awp_region rfl ?_
  simp only [hr0, nb2_r0, nr0_b2, List.length_map, strs, smL, smV, one_strs, RR, seval]
  refine awpC_jd (token_con r0 hT n w hn 1 (by decide)) (by first | exact hr0 | (simp only [hr0, nb2_r0, nr0_b2, List.length_map, strs, smL, smV, one_strs, upd_app, RR, seval]; done)) trivial fun a5 m5 w5 M1 hj5 hle5 hlt5 hn5x hk5x => ?_
  have hres := stW_step hres hj5
  have gb2 := hk5x b2 _ (by first | exact nb2_r0 | exact blk_ne hb2 hr0 (by decide) | (intro e; subst e; simp_all)) (by first | exact upd_same _ _ _ | (simp only [hr0, nb2_r0, nr0_b2, List.length_map, strs, smL, smV, one_strs, upd_app, RR, seval]; rfl))
  have hb2 := gb2; clear gb2
  have hr0 := hn5x; clear hn5x hk5x
  simp only [hr0, hb2, nb2_r0, nr0_b2, List.length_map, strs, smL, smV, one_strs, RR, seval]
  refine awpN_intro fun b3 hn3 => ?_
  have nb3_r0 : b3 ≠ r0 := fun e => by rw [e] at hn3; simp only [hr0, nb2_r0, nr0_b2, RR, seval, reduceCtorEq] at hn3
  have nr0_b3 : r0 ≠ b3 := fun e => nb3_r0 e.symm
  have nb3_b2 : b3 ≠ b2 := fun e => by rw [e] at hn3; simp only [hb2, nb2_r0, nr0_b2, RR, seval, reduceCtorEq] at hn3
  have nb2_b3 : b2 ≠ b3 := fun e => nb3_b2 e.symm
  simp only [hr0, hb2, nb2_r0, nr0_b2, nb3_r0, nr0_b3, nb3_b2, nb2_b3, List.length_map, strs, smL, smV, one_strs, RR, seval]
  refine hK _ _ ?_; clear hK K
  refine awp_seq_k fun K hK => ?_
  refine awp_region rfl ?_
  simp only [hr0, hb2, nb2_r0, nr0_b2, nb3_r0, nr0_b3, nb3_b2, nb2_b3, List.length_map, strs, smL, smV, one_strs, RR, seval]
  refine awpC_jd (jmust_con r0 hT m5 w5 hlt5 [40] (by decide)) (by first | exact hr0 | (simp only [hr0, hb2, nb2_r0, nr0_b2, nb3_r0, nr0_b3, nb3_b2, nb2_b3, List.length_map, strs, smL, smV, one_strs, upd_app, RR, seval]; done)) trivial fun a9 m9 w9 M2 hj9 hle9 hlt9 hn9x hk9x => ?_
  have hres := stW_step hres hj9
  have gb2 := hk9x b2 _ (by first | exact nb2_r0 | exact blk_ne hb2 hr0 (by decide) | (intro e; subst e; simp_all)) (by first | exact hb2 | exact upd_same _ _ _ | (simp only [hr0, hb2, nb2_r0, nr0_b2, nb3_r0, nr0_b3, nb3_b2, nb2_b3, List.length_map, strs, smL, smV, one_strs, upd_app, RR, seval]; rfl))
  have gb3 := hk9x b3 _ (by first | exact nb3_r0 | exact blk_ne hb3 hr0 (by decide) | (intro e; subst e; simp_all)) (by first | exact upd_same _ _ _ | (simp only [hr0, hb2, nb2_r0, nr0_b2, nb3_r0, nr0_b3, nb3_b2, nb2_b3, List.length_map, strs, smL, smV, one_strs, upd_app, RR, seval]; rfl))
  have hb2 := gb2; clear gb2
  have hb3 := gb3; clear gb3
  have hr0 := hn9x; clear hn9x hk9x
  simp only [hr0, hb2, hb3, nb2_r0, nr0_b2, nb3_r0, nr0_b3, nb3_b2, nb2_b3, List.length_map, strs, smL, smV, one_strs, RR, seval]
  refine hK _ _ ?_; clear hK K
  refine awp_seq ?_
  refine awp_seq_k fun K hK => ?_
  refine awp_region rfl ?_
  simp only [hr0, hb2, hb3, nb2_r0, nr0_b2, nb3_r0, nr0_b3, nb3_b2, nb2_b3, List.length_map, strs, smL, smV, one_strs, RR, seval]
  refine awpC_jo (is_con r0 hT m9 w9 hlt9 [41] (by decide)) (by first | exact hr0 | (simp only [hr0, hb2, hb3, nb2_r0, nr0_b2, nb3_r0, nr0_b3, nb3_b2, nb2_b3, List.length_map, strs, smL, smV, one_strs, upd_app, RR, seval]; done)) trivial fun M3 hn11x hk11x => ?_
  have gb2 := hk11x b2 _ (by first | exact nb2_r0 | exact blk_ne hb2 hr0 (by decide) | (intro e; subst e; simp_all)) (by first | exact hb2 | exact upd_same _ _ _ | (simp only [hr0, hb2, hb3, nb2_r0, nr0_b2, nb3_r0, nr0_b3, nb3_b2, nb2_b3, List.length_map, strs, smL, smV, one_strs, upd_app, RR, seval]; rfl))
  have gb3 := hk11x b3 _ (by first | exact nb3_r0 | exact blk_ne hb3 hr0 (by decide) | (intro e; subst e; simp_all)) (by first | exact hb3 | exact upd_same _ _ _ | (simp only [hr0, hb2, hb3, nb2_r0, nr0_b2, nb3_r0, nr0_b3, nb3_b2, nb2_b3, List.length_map, strs, smL, smV, one_strs, upd_app, RR, seval]; rfl))
  have hb2 := gb2; clear gb2
  have hb3 := gb3; clear gb3
  have hr0 := hn11x; clear hn11x hk11x
  simp only [hr0, hb2, hb3, nb2_r0, nr0_b2, nb3_r0, nr0_b3, nb3_b2, nb2_b3, List.length_map, strs, smL, smV, one_strs, RR, seval]
  refine hK _ _ ?_; clear hK K
  refine awp_name fun F4 M4 hfr hH => ?_
  have g0 := hfr 0
  have g2 := hfr 2
  have g3 := hfr 3
  have g12 := hfr 12
  have gr0 := hH r0
  have gb2 := hH b2
  have gb3 := hH b3
  try simp only [hr0, hb2, hb3, nb2_r0, nr0_b2, nb3_r0, nr0_b3, nb3_b2, nb2_b3, List.length_map, strs, smL, smV, one_strs, RR, seval] at g0 g2 g3 g12 gr0 gb2 gb3
  have f0 := g0; clear g0
  have f2 := g2; clear g2
  have f3 := g3; clear g3
  have f12 := g12; clear g12
  have hr0 := gr0; clear gr0
  have hb2 := gb2; clear gb2
  have hb3 := gb3; clear gb3
  clear hfr hH
  refine awp_cutP (fun fr M => agree [0, 2, 3] F4 fr ∧ M b2 = M4 b2 ∧ ∃ (ps : List Str) (m : Nat) (w : Bool) (v1 : AV), n ≤ m ∧ m ≤ T.length ∧ stW w m (funL T a5.text ps m (decide (peekI T m = wWord))) = res ∧ M b3 = some (.rows 5 [[.str a5.text, v1, .nsl, .bool false, .nsl]]) ∧ one v1 = true ∧ flatV v1 = true ∧ Al.Sub v1 (.isl 1 (ps.map strRow)) ∧ M r0 = some (.rows 3 [[.isl 4 (T.map Tok.row), .int .i64 (m : Nat), .bool w]])) (fun KC3 hKC3 => ?_) ?_
  · have agC3 := agree.refl [0, 2, 3] F4
    have eC3_b2 : M4 b2 = M4 b2 := rfl
    refine awp_if _ (by first | rfl | exact f12) (fun hc3 => ?_) (fun hc3 => ?_)
    · simp only [Bool.not_eq_true', Bool.not_eq_false', Bool.not_true, Bool.not_false] at hc3
      have hres := is_f hc3 hres
      rw [if_neg (Bool.eq_false_iff.1 hc3)] at hr0
      refine awp_seq_k fun K hK => ?_
      refine awp_region rfl ?_
      simp only [f0, f3, hr0, hb2, hb3, nb2_r0, nr0_b2, nb3_r0, nr0_b3, nb3_b2, nb2_b3, List.length_map, strs, smL, smV, one_strs, RR, seval]
      refine awpC_jd (jnames_con r0 hT m9 w9 hlt9) (by first | exact hr0 | (simp only [f0, f2, f3, f12, hr0, hb2, hb3, nb2_r0, nr0_b2, nb3_r0, nr0_b3, nb3_b2, nb2_b3, List.length_map, strs, smL, smV, one_strs, upd_app, RR, seval]; done)) trivial fun a14 m14 w14 M5 hj14 hle14 hlt14 hn14x hk14x => ?_
      have hres := stW_step hres hj14
      have gb2 := hk14x b2 _ (by first | exact nb2_r0 | exact blk_ne hb2 hr0 (by decide) | (intro e; subst e; simp_all)) (by first | exact hb2 | exact upd_same _ _ _ | (simp only [f0, f2, f3, f12, hr0, hb2, hb3, nb2_r0, nr0_b2, nb3_r0, nr0_b3, nb3_b2, nb2_b3, List.length_map, strs, smL, smV, one_strs, upd_app, RR, seval]; rfl))
      have eC3_b2 := (gb2.trans hb2.symm).trans eC3_b2
      have gb3 := hk14x b3 _ (by first | exact nb3_r0 | exact blk_ne hb3 hr0 (by decide) | (intro e; subst e; simp_all)) (by first | exact hb3 | exact upd_same _ _ _ | (simp only [f0, f2, f3, f12, hr0, hb2, hb3, nb2_r0, nr0_b2, nb3_r0, nr0_b3, nb3_b2, nb2_b3, List.length_map, strs, smL, smV, one_strs, upd_app, RR, seval]; rfl))
      have hb2 := gb2; clear gb2
      have hb3 := gb3; clear gb3
      have hr0 := hn14x; clear hn14x hk14x
      simp only [f0, f3, hr0, hb2, hb3, nb2_r0, nr0_b2, nb3_r0, nr0_b3, nb3_b2, nb2_b3, List.length_map, strs, smL, smV, one_strs, RR, seval]
      refine hK _ _ ?_; clear hK K
      refine awp_region rfl ?_
      simp only [f0, hr0, hb2, hb3, nb2_r0, nr0_b2, nb3_r0, nr0_b3, nb3_b2, nb2_b3, List.length_map, strs, smL, smV, one_strs, RR, seval]
      refine awpC_jd (jmust_con r0 hT m14 w14 hlt14 [41] (by decide)) (by first | exact hr0 | (simp only [f0, f2, f3, f12, hr0, hb2, hb3, nb2_r0, nr0_b2, nb3_r0, nr0_b3, nb3_b2, nb2_b3, List.length_map, strs, smL, smV, one_strs, upd_app, RR, seval]; done)) trivial fun a17 m17 w17 M6 hj17 hle17 hlt17 hn17x hk17x => ?_
      have hres := stW_step hres hj17
      have gb2 := hk17x b2 _ (by first | exact nb2_r0 | exact blk_ne hb2 hr0 (by decide) | (intro e; subst e; simp_all)) (by first | exact hb2 | exact upd_same _ _ _ | (simp only [f0, f2, f3, f12, hr0, hb2, hb3, nb2_r0, nr0_b2, nb3_r0, nr0_b3, nb3_b2, nb2_b3, List.length_map, strs, smL, smV, one_strs, upd_app, RR, seval]; rfl))
      have eC3_b2 := (gb2.trans hb2.symm).trans eC3_b2
      have gb3 := hk17x b3 _ (by first | exact nb3_r0 | exact blk_ne hb3 hr0 (by decide) | (intro e; subst e; simp_all)) (by first | exact hb3 | exact upd_same _ _ _ | (simp only [f0, f2, f3, f12, hr0, hb2, hb3, nb2_r0, nr0_b2, nb3_r0, nr0_b3, nb3_b2, nb2_b3, List.length_map, strs, smL, smV, one_strs, upd_app, RR, seval]; rfl))
      have hb2 := gb2; clear gb2
      have hb3 := gb3; clear gb3
      have hr0 := hn17x; clear hn17x hk17x
      simp only [f0, hr0, hb2, hb3, nb2_r0, nr0_b2, nb3_r0, nr0_b3, nb3_b2, nb2_b3, List.length_map, strs, smL, smV, one_strs, RR, seval]
      refine hKC3 _ _ ⟨(by repeat (first | exact agC3 | refine agree.upd rfl ?_)), (by first | exact eC3_b2 | (simp only [nb2_r0, nr0_b2, nb3_r0, nr0_b3, nb3_b2, nb2_b3, upd_app, seval]; first | done | exact eC3_b2)), ?_⟩
      first | exact ⟨a14, m17, w17, _, by omega, by omega, hres, by first | exact hb3 | exact upd_same _ _ _ | (simp only [f0, f2, f3, f12, hr0, hb2, hb3, nb2_r0, nr0_b2, nb3_r0, nr0_b3, nb3_b2, nb2_b3, List.length_map, strs, smL, smV, one_strs, upd_app, RR, seval]; rfl), rfl, rfl, Sub.refl _, by first | exact hr0 | (simp only [f0, f2, f3, f12, hr0, hb2, hb3, nb2_r0, nr0_b2, nb3_r0, nr0_b3, nb3_b2, nb2_b3, List.length_map, strs, smL, smV, one_strs, upd_app, RR, seval]; done)⟩ | exact ⟨[], m9 + 1, w9, _, by omega, by omega, hres, by first | exact hb3 | (simp only [f0, f2, f3, f12, hr0, hb2, hb3, nb2_r0, nr0_b2, nb3_r0, nr0_b3, nb3_b2, nb2_b3, List.length_map, strs, smL, smV, one_strs, upd_app, RR, seval]; rfl), rfl, rfl, Sub.nsl _, by first | exact hr0 | (simp only [f0, f2, f3, f12, hr0, hb2, hb3, nb2_r0, nr0_b2, nb3_r0, nr0_b3, nb3_b2, nb2_b3, List.length_map, strs, smL, smV, one_strs, upd_app, RR, seval]; done)⟩
    · simp only [Bool.not_eq_true', Bool.not_eq_false', Bool.not_true, Bool.not_false] at hc3
      have hres := is_t hc3 hres
      rw [if_pos hc3] at hr0
      have hlt3 := isB_lt hc3 (by first | assumption | decide)
      refine awp_skip ?_; try simp only [RR]
      refine hKC3 _ _ ⟨(by repeat (first | exact agC3 | refine agree.upd rfl ?_)), (by first | exact eC3_b2 | (simp only [nb2_r0, nr0_b2, nb3_r0, nr0_b3, nb3_b2, nb2_b3, upd_app, seval]; first | done | exact eC3_b2)), ?_⟩
      first | exact ⟨a14, m17, w17, _, by omega, by omega, hres, by first | exact hb3 | exact upd_same _ _ _ | (simp only [f0, f2, f3, f12, hr0, hb2, hb3, nb2_r0, nr0_b2, nb3_r0, nr0_b3, nb3_b2, nb2_b3, List.length_map, strs, smL, smV, one_strs, upd_app, RR, seval]; rfl), rfl, rfl, Sub.refl _, by first | exact hr0 | (simp only [f0, f2, f3, f12, hr0, hb2, hb3, nb2_r0, nr0_b2, nb3_r0, nr0_b3, nb3_b2, nb2_b3, List.length_map, strs, smL, smV, one_strs, upd_app, RR, seval]; done)⟩ | exact ⟨[], m9 + 1, w9, _, by omega, by omega, hres, by first | exact hb3 | (simp only [f0, f2, f3, f12, hr0, hb2, hb3, nb2_r0, nr0_b2, nb3_r0, nr0_b3, nb3_b2, nb2_b3, List.length_map, strs, smL, smV, one_strs, upd_app, RR, seval]; rfl), rfl, rfl, Sub.nsl _, by first | exact hr0 | (simp only [f0, f2, f3, f12, hr0, hb2, hb3, nb2_r0, nr0_b2, nb3_r0, nr0_b3, nb3_b2, nb2_b3, List.length_map, strs, smL, smV, one_strs, upd_app, RR, seval]; done)⟩
  rintro F7 M7 ⟨agx, gb2, ps, m, w', v1, hnm, hm, hres, hb3, w1, fl1, hsub, hr0⟩
  have f0 := (agx 0 rfl).trans f0
  have f2 := (agx 2 rfl).trans f2
  have f3 := (agx 3 rfl).trans f3
  have hb2 := gb2.trans hb2
  clear agx
  clear gb2
  simp only [RR, seval]
  refine awp_seq_k fun K hK => ?_
  refine awp_region rfl ?_
  simp only [f0, f3, hb2, hb3, hr0, nb2_r0, nr0_b2, nb3_r0, nr0_b3, nb3_b2, nb2_b3, List.length_map, strs, smL, smV, one_strs, w1, RR, seval]
  refine awpC_jo (is_con r0 hT m w' hm wWord (by decide)) (by first | exact hr0 | (simp only [f0, f2, f3, hb2, hb3, hr0, nb2_r0, nr0_b2, nb3_r0, nr0_b3, nb3_b2, nb2_b3, List.length_map, strs, smL, smV, one_strs, w1, upd_app, RR, seval]; done)) trivial fun M8 hn19x hk19x => ?_
  have gb2 := hk19x b2 _ (by first | exact nb2_r0 | exact blk_ne hb2 hr0 (by decide) | (intro e; subst e; simp_all)) (by first | exact hb2 | exact upd_same _ _ _ | (simp only [f0, f2, f3, hb2, hb3, hr0, nb2_r0, nr0_b2, nb3_r0, nr0_b3, nb3_b2, nb2_b3, List.length_map, strs, smL, smV, one_strs, w1, upd_app, RR, seval]; rfl))
  have gb3 := hk19x b3 _ (by first | exact nb3_r0 | exact blk_ne hb3 hr0 (by decide) | (intro e; subst e; simp_all)) (by first | exact hb3 | exact upd_same _ _ _ | (simp only [f0, f2, f3, hb2, hb3, hr0, nb2_r0, nr0_b2, nb3_r0, nr0_b3, nb3_b2, nb2_b3, List.length_map, strs, smL, smV, one_strs, w1, upd_app, RR, seval]; rfl))
  have hb2 := gb2; clear gb2
  have hb3 := gb3; clear gb3
  have hr0 := hn19x; clear hn19x hk19x
  simp only [f0, f3, hb2, hb3, hr0, nb2_r0, nr0_b2, nb3_r0, nr0_b3, nb3_b2, nb2_b3, List.length_map, strs, smL, smV, one_strs, w1, RR, seval]
  refine hK _ _ ?_; clear hK K
  have hres := st_word (G := fun b => funL T a5.text ps m b) hres
  simp only [funL] at hres
  have hmw : (if isB T w' m wWord = true then m + 1 else m) ≤ T.length ∧ m ≤ (if isB T w' m wWord = true then m + 1 else m) := by
    split
    · rename_i hw; have := isB_lt hw (by decide); omega
    · omega
  generalize (if isB T w' m wWord = true then m + 1 else m) = mw at hres hr0 hmw
  generalize isB T w' m wWord = wd at hres ⊢
  refine awp_seq_k fun K hK => ?_
  refine awp_region rfl ?_
  simp only [f0, hb2, hb3, hr0, nb2_r0, nr0_b2, nb3_r0, nr0_b3, nb3_b2, nb2_b3, List.length_map, strs, smL, smV, one_strs, w1, RR, seval]
  refine awpC_jd (jmust_con r0 hT mw w' hmw.1 [123] (by decide)) (by first | exact hr0 | (simp only [f0, f2, f3, hb2, hb3, hr0, nb2_r0, nr0_b2, nb3_r0, nr0_b3, nb3_b2, nb2_b3, List.length_map, strs, smL, smV, one_strs, w1, upd_app, RR, seval]; done)) trivial fun a22 m22 w22 M9 hj22 hle22 hlt22 hn22x hk22x => ?_
  have hres := stW_step hres hj22
  have gb2 := hk22x b2 _ (by first | exact nb2_r0 | exact blk_ne hb2 hr0 (by decide) | (intro e; subst e; simp_all)) (by first | exact hb2 | exact upd_same _ _ _ | (simp only [f0, f2, f3, hb2, hb3, hr0, nb2_r0, nr0_b2, nb3_r0, nr0_b3, nb3_b2, nb2_b3, List.length_map, strs, smL, smV, one_strs, w1, upd_app, RR, seval]; rfl))
  have gb3 := hk22x b3 _ (by first | exact nb3_r0 | exact blk_ne hb3 hr0 (by decide) | (intro e; subst e; simp_all)) (by first | exact hb3 | exact upd_same _ _ _ | (simp only [f0, f2, f3, hb2, hb3, hr0, nb2_r0, nr0_b2, nb3_r0, nr0_b3, nb3_b2, nb2_b3, List.length_map, strs, smL, smV, one_strs, w1, upd_app, RR, seval]; rfl))
  have hb2 := gb2; clear gb2
  have hb3 := gb3; clear gb3
  have hr0 := hn22x; clear hn22x hk22x
  simp only [f0, hb2, hb3, hr0, nb2_r0, nr0_b2, nb3_r0, nr0_b3, nb3_b2, nb2_b3, List.length_map, strs, smL, smV, one_strs, w1, RR, seval]
  refine hK _ _ ?_; clear hK K
  refine awp_seq ?_
  refine awp_name fun F10 M10 hfr hH => ?_
  have g0 := hfr 0
  have g2 := hfr 2
  have g3 := hfr 3
  have gb2 := hH b2
  have gb3 := hH b3
  have gr0 := hH r0
  try simp only [f0, f2, f3, hb2, hb3, hr0, nb2_r0, nr0_b2, nb3_r0, nr0_b3, nb3_b2, nb2_b3, List.length_map, strs, smL, smV, one_strs, w1, RR, seval] at g0 g2 g3 gb2 gb3 gr0
  have f0 := g0; clear g0
  have f2 := g2; clear g2
  have f3 := g3; clear g3
  have hb2 := gb2; clear gb2
  have hb3 := gb3; clear gb3
  have hr0 := gr0; clear gr0
  clear hfr hH
  refine awp_block ?_
  refine awp_while [0, 2, 3] (T.length - m22) (fun k fr M => M b2 = M10 b2 ∧ (∃ (m : Nat) (w : Bool) (acc : List Str) (v : AV), k = T.length - m ∧ n ≤ m ∧ m ≤ T.length ∧ acc.length ≤ 1000001 * (m + 1) ∧ stW w m ((locP T acc m).bind fun ls c => funB T a5.text ps wd ls c) = res ∧ OwnL 1 v (acc.map strRow) M ∧ M b3 = some (.rows 5 [[.str a5.text, v1, v, .bool wd, .nsl]]) ∧ M r0 = some (.rows 3 [[.isl 4 (T.map Tok.row), .int .i64 (m : Nat), .bool w]]))) ⟨rfl, m22, w22, [], .nsl, rfl, by omega, hlt22, Nat.zero_le _, hres, .inl ⟨rfl, rfl⟩, by first | exact hb3 | (simp only [f0, f2, f3, hb2, hb3, hr0, nb2_r0, nr0_b2, nb3_r0, nr0_b3, nb3_b2, nb2_b3, List.length_map, strs, smL, smV, one_strs, w1, upd_app, RR, seval]; done), hr0⟩ ?_
  rintro k F11 M11 ⟨gb2, m, w', acc, v, rfl, hnm, hm, hal, hres, hown, hb3, hr0⟩ agx K0 hK0
  have f0 := (agx 0 rfl).trans f0
  have f2 := (agx 2 rfl).trans f2
  have f3 := (agx 3 rfl).trans f3
  have hb2 := gb2.trans hb2
  have ag0 := agree.refl [0, 2, 3] F11
  have e0_b2 := gb2; clear gb2
  clear agx
  have ho3 := hown.offsz hb3 (by decide)
  have hone := hown.one1
  have hcls := hown.cells
  rw [locP_eq] at hres
  simp only [bind_ite, bind_assoc, PR.bind_ok] at hres
  refine awp_seq ?_
  refine awp_seq_k fun K hK => ?_
  refine awp_region rfl ?_
  simp only [f0, hb2, hr0, hb3, nb2_r0, nr0_b2, nb3_r0, nr0_b3, nb3_b2, nb2_b3, List.length_map, strs, smL, smV, one_strs, w1, hone, hcls, RR, seval]
  refine awpC_jo (is_con r0 hT m w' hm wVar (by decide)) (by first | exact hr0 | (simp only [f0, f2, f3, hb2, hr0, hb3, nb2_r0, nr0_b2, nb3_r0, nr0_b3, nb3_b2, nb2_b3, List.length_map, strs, smL, smV, one_strs, w1, hone, hcls, upd_app, RR, seval]; done)) trivial fun M12 hn24x hk24x => ?_
  have gb2 := hk24x b2 _ (by first | exact nb2_r0 | exact blk_ne hb2 hr0 (by decide) | (intro e; subst e; simp_all)) (by first | exact hb2 | exact upd_same _ _ _ | (simp only [f0, f2, f3, hb2, hr0, hb3, nb2_r0, nr0_b2, nb3_r0, nr0_b3, nb3_b2, nb2_b3, List.length_map, strs, smL, smV, one_strs, w1, hone, hcls, upd_app, RR, seval]; rfl))
  have e0_b2 := (gb2.trans hb2.symm).trans e0_b2
  have gb3 := hk24x b3 _ (by first | exact nb3_r0 | exact blk_ne hb3 hr0 (by decide) | (intro e; subst e; simp_all)) (by first | exact hb3 | exact upd_same _ _ _ | (simp only [f0, f2, f3, hb2, hr0, hb3, nb2_r0, nr0_b2, nb3_r0, nr0_b3, nb3_b2, nb2_b3, List.length_map, strs, smL, smV, one_strs, w1, hone, hcls, upd_app, RR, seval]; rfl))
  have hb2 := gb2; clear gb2
  have hb3 := gb3; clear gb3
  have hown := OwnL.kp hown hr0 (by decide) hk24x
  have hr0 := hn24x; clear hn24x hk24x
  simp only [f0, hb2, hr0, hb3, nb2_r0, nr0_b2, nb3_r0, nr0_b3, nb3_b2, nb2_b3, List.length_map, strs, smL, smV, one_strs, w1, hone, hcls, RR, seval]
  refine hK _ _ ?_; clear hK K
  refine awp_if _ rfl (fun hc => ?_) (fun hc => ?_)
  · have hw0 := hc; clear hc
    have hres := is_t hw0 hres
    rw [if_pos hw0] at hr0
    have hlt := isB_lt hw0 (by decide)
    refine awp_skip ?_; try simp only [RR]
    refine awp_block ?_
    refine awp_name fun F13 M13 hfr hH => ?_
    have g0 := hfr 0
    have g2 := hfr 2
    have g3 := hfr 3
    have gb2 := hH b2
    have gr0 := hH r0
    have gb3 := hH b3
    try simp only [f0, f2, f3, hb2, hr0, hb3, nb2_r0, nr0_b2, nb3_r0, nr0_b3, nb3_b2, nb2_b3, List.length_map, strs, smL, smV, one_strs, w1, hone, hcls, RR, seval] at g0 g2 g3 gb2 gr0 gb3
    have ag0 : agree [0, 2, 3] F11 F13 := agree.same hfr (by repeat (first | exact ag0 | refine agree.upd rfl ?_))
    have e0_b2 := (hH b2).trans (by first | exact e0_b2 | (simp only [nb2_r0, nr0_b2, nb3_r0, nr0_b3, nb3_b2, nb2_b3, upd_app, seval]; first | done | exact e0_b2))
    have hown := hown.same hH
    have f0 := g0; clear g0
    have f2 := g2; clear g2
    have f3 := g3; clear g3
    have hb2 := gb2; clear gb2
    have hr0 := gr0; clear gr0
    have hb3 := gb3; clear gb3
    clear hfr hH
    refine awp_seq_k fun K hK => ?_
    refine awp_region_draw2 (fun x => x ≠ b3 ∧ x ≠ b2) [(0, 3), (1, 0), (2, 3), (3, 1), (4, 1), (5, 3)] [(6, 1)] draws (by kernel_rfl) rfl rfl ?_
    simp only [emitF, markOf, EM, f0, f3, hb2, hr0, hb3, nb2_r0, nr0_b2, nb3_r0, nr0_b3, nb3_b2, nb2_b3, List.length_map, strs, smL, smV, one_strs, w1, hone, hcls, RR, seval]
    refine awpC_jg (jnames_conG r0 hT (m + 1) w' (by omega)) (by first | exact hr0 | (simp only [f0, f2, f3, hb2, hr0, hb3, nb2_r0, nr0_b2, nb3_r0, nr0_b3, nb3_b2, nb2_b3, List.length_map, strs, smL, smV, one_strs, w1, hone, hcls, upd_app, RR, seval]; done)) (by first | trivial | (repeat' apply And.intro) <;> assumption) fun a28 m28 w28 M14 hj28 hle28 hlt28 hg28 hn28x hk28x => ?_
    have hres := stW_step hres hj28
    have gb2 := hk28x b2 _ (by first | exact nb2_r0 | exact blk_ne hb2 hr0 (by decide) | (intro e; subst e; simp_all)) (by first | exact hb2 | exact upd_same _ _ _ | (simp only [f0, f2, f3, hb2, hr0, hb3, nb2_r0, nr0_b2, nb3_r0, nr0_b3, nb3_b2, nb2_b3, List.length_map, strs, smL, smV, one_strs, w1, hone, hcls, upd_app, RR, seval]; rfl))
    have e0_b2 := (gb2.trans hb2.symm).trans e0_b2
    have gb3 := hk28x b3 _ (by first | exact nb3_r0 | exact blk_ne hb3 hr0 (by decide) | (intro e; subst e; simp_all)) (by first | exact hb3 | exact upd_same _ _ _ | (simp only [f0, f2, f3, hb2, hr0, hb3, nb2_r0, nr0_b2, nb3_r0, nr0_b3, nb3_b2, nb2_b3, List.length_map, strs, smL, smV, one_strs, w1, hone, hcls, upd_app, RR, seval]; rfl))
    have hb2 := gb2; clear gb2
    have hb3 := gb3; clear gb3
    have hown := OwnL.kp hown hr0 (by decide) hk28x
    have hr0 := hn28x; clear hn28x hk28x
    simp only [emitF, markOf, EM, f0, f3, hb2, hr0, hb3, nb2_r0, nr0_b2, nb3_r0, nr0_b3, nb3_b2, nb2_b3, List.length_map, strs, smL, smV, one_strs, w1, hone, hcls, RR, seval]
    refine awpA_ownF hown (by simp only [List.length_map, List.length_cons, List.length_nil]; omega) (fun b e => by first | trivial | (repeat' apply And.intro) <;> (intro c; subst c; first | exact ho3 _ _ e | exact hown.nb' hb2 (by decide) e | exact hown.nb' hr0 (by decide) e)) fun v9 M15 hown' hk' hg' => ?_
    have ho3' := hg' b3 ho3 (by rw [hb3]; exact Option.some_ne_none _)
    simp only [emitF, markOf, EM, f0, f3, hb2, hr0, hb3, nb2_r0, nr0_b2, nb3_r0, nr0_b3, nb3_b2, nb2_b3, List.length_map, strs, smL, smV, one_strs, w1, hone, hcls, RR, seval]
    have gb2 := hk' b2 _ hb2 (by first | exact (hown).nb' hb2 (by decide) | exact ho2 _ _ | assumption | (intro e; simp_all))
    have e0_b2 := (gb2.trans hb2.symm).trans e0_b2
    have hb2 := gb2; clear gb2
    have gr0 := hk' r0 _ hr0 (by first | exact (hown).nb' hr0 (by decide) | exact ho0 _ _ | assumption | (intro e; simp_all))
    have hr0 := gr0; clear gr0
    have gb3 := hk' b3 _ hb3 (by first | exact (hown).nb' hb3 (by decide) | exact ho3 _ _ | assumption | (intro e; simp_all))
    have hb3 := gb3; clear gb3
    have hce := hown'.cells; have hoe := hown'.one1
    try simp only [emitF, markOf, EM, hce, hoe, Option.bind_some, List.drop, f0, f3, hb2, hr0, hb3, nb2_r0, nr0_b2, nb3_r0, nr0_b3, nb3_b2, nb2_b3, List.length_map, strs, smL, smV, one_strs, w1, hone, hcls, RR, seval]
    refine hK _ _ ?_; clear hK K
    refine awp_name fun F16 M16 hfr hH => ?_
    have g0 := hfr 0
    have g2 := hfr 2
    have g3 := hfr 3
    have gb2 := hH b2
    have gr0 := hH r0
    have gb3 := hH b3
    try simp only [f0, f2, f3, hb2, hr0, hb3, nb2_r0, nr0_b2, nb3_r0, nr0_b3, nb3_b2, nb2_b3, List.length_map, strs, smL, smV, one_strs, w1, hone, hcls, RR, seval] at g0 g2 g3 gb2 gr0 gb3
    have ag0 : agree [0, 2, 3] F11 F16 := agree.same hfr (by repeat (first | exact ag0 | refine agree.upd rfl ?_))
    have e0_b2 := (hH b2).trans (by first | exact e0_b2 | (simp only [nb2_r0, nr0_b2, nb3_r0, nr0_b3, nb3_b2, nb2_b3, upd_app, seval]; first | done | exact e0_b2))
    have hown' := (hown'.off ho3' _).same hH
    have f0 := g0; clear g0
    have f2 := g2; clear g2
    have f3 := g3; clear g3
    have hb2 := gb2; clear gb2
    have hr0 := gr0; clear gr0
    have hb3 := gb3; clear gb3
    clear hfr hH
    refine awp_region rfl ?_
    simp only [f0, hb2, hr0, hb3, nb2_r0, nr0_b2, nb3_r0, nr0_b3, nb3_b2, nb2_b3, List.length_map, strs, smL, smV, one_strs, w1, hone, hcls, RR, seval]
    refine awpC_jd (jmust_con r0 hT m28 w28 hlt28 [59] (by decide)) (by first | exact hr0 | (simp only [f0, f2, f3, hb2, hr0, hb3, nb2_r0, nr0_b2, nb3_r0, nr0_b3, nb3_b2, nb2_b3, List.length_map, strs, smL, smV, one_strs, w1, hone, hcls, upd_app, RR, seval]; done)) trivial fun a32 m32 w32 M17 hj32 hle32 hlt32 hn32x hk32x => ?_
    have hres := stW_step hres hj32
    have gb2 := hk32x b2 _ (by first | exact nb2_r0 | exact blk_ne hb2 hr0 (by decide) | (intro e; subst e; simp_all)) (by first | exact hb2 | exact upd_same _ _ _ | (simp only [f0, f2, f3, hb2, hr0, hb3, nb2_r0, nr0_b2, nb3_r0, nr0_b3, nb3_b2, nb2_b3, List.length_map, strs, smL, smV, one_strs, w1, hone, hcls, upd_app, RR, seval]; rfl))
    have e0_b2 := (gb2.trans hb2.symm).trans e0_b2
    have gb3 := hk32x b3 _ (by first | exact nb3_r0 | exact blk_ne hb3 hr0 (by decide) | (intro e; subst e; simp_all)) (by first | exact hb3 | exact upd_same _ _ _ | (simp only [f0, f2, f3, hb2, hr0, hb3, nb2_r0, nr0_b2, nb3_r0, nr0_b3, nb3_b2, nb2_b3, List.length_map, strs, smL, smV, one_strs, w1, hone, hcls, upd_app, RR, seval]; rfl))
    have hb2 := gb2; clear gb2
    have hb3 := gb3; clear gb3
    have hown' := OwnL.kp hown' hr0 (by decide) hk32x
    have hr0 := hn32x; clear hn32x hk32x
    simp only [f0, hb2, hr0, hb3, nb2_r0, nr0_b2, nb3_r0, nr0_b3, nb3_b2, nb2_b3, List.length_map, strs, smL, smV, one_strs, w1, hone, hcls, RR, seval]
    try rw [IntWalk.i64_in _ (by omega)]
    refine hK0 (T.length - m32) _ _ (by omega) ⟨(by first | exact e0_b2 | (simp only [nb2_r0, nr0_b2, nb3_r0, nr0_b3, nb3_b2, nb2_b3, upd_app, seval]; first | done | exact e0_b2)), m32, w32, acc ++ a28, _, rfl, by omega, hlt32, by simp only [List.length_append]; omega, hres, by rw [List.map_append]; exact hown', by first | exact hb3 | (simp only [f0, f2, f3, hb2, hr0, hb3, nb2_r0, nr0_b2, nb3_r0, nr0_b3, nb3_b2, nb2_b3, List.length_map, strs, smL, smV, one_strs, w1, hone, hcls, upd_app, RR, seval]; done), by first | exact hr0 | (simp only [f0, f2, f3, hb2, hr0, hb3, nb2_r0, nr0_b2, nb3_r0, nr0_b3, nb3_b2, nb2_b3, List.length_map, strs, smL, smV, one_strs, w1, hone, hcls, upd_app, RR, seval]; done)⟩ (by repeat (first | exact ag0 | refine agree.upd rfl ?_))
  · have hw0 := hc; clear hc
    have hres := is_f hw0 hres
    rw [if_neg (Bool.eq_false_iff.1 hw0)] at hr0
    simp only [funB] at hres
    refine awp_exit ?_; simp only [RR, seval]
    refine awp_seq ?_
    refine awp_name fun F18 M18 hfr hH => ?_
    have g0 := hfr 0
    have g2 := hfr 2
    have g3 := hfr 3
    have gb2 := hH b2
    have gr0 := hH r0
    have gb3 := hH b3
    try simp only [f0, f2, f3, hb2, hr0, hb3, nb2_r0, nr0_b2, nb3_r0, nr0_b3, nb3_b2, nb2_b3, List.length_map, strs, smL, smV, one_strs, w1, hone, hcls, RR, seval] at g0 g2 g3 gb2 gr0 gb3
    have hown := hown.same hH
    have f0 := g0; clear g0
    have f2 := g2; clear g2
    have f3 := g3; clear g3
    have hb2 := gb2; clear gb2
    have hr0 := gr0; clear gr0
    have hb3 := gb3; clear gb3
    clear hfr hH
    have h0 : M18 b3 = some (.rows 5 [[.str a5.text, v1] ++ v :: [.bool wd, .nsl]]) := hb3
    refine awp_sealP hown h0 (fun x hx => by simp only [List.mem_cons, List.not_mem_nil, or_false] at hx; rcases hx with rfl | rfl; exact noO_flat rfl; exact noO_flat fl1) (fun x hx => by simp only [List.mem_cons, List.not_mem_nil, or_false] at hx; rcases hx with rfl | rfl <;> exact noO_flat rfl) ho3 fun F8 M8 hfF hb3' hbF => ?_
    have f0 := (hfF 0 (by rw [f0]; exact noO_flat rfl)).trans f0
    have f2 := (hfF 2 (by rw [f2]; exact noO_flat rfl)).trans f2
    have f3 := (hfF 3 (by rw [f3]; exact noO_flat rfl)).trans f3
    have hr0 := hbF r0 _ _ nr0_b3 (hown.offsz hr0 (by decide)) (fun r hr x hx => by simp only [List.mem_singleton] at hr; subst hr; simp only [List.mem_cons, List.not_mem_nil, or_false] at hx; rcases hx with rfl | rfl | rfl <;> exact noO_flat rfl) hr0
    have hb2 := hbF b2 _ _ nb2_b3 (hown.offsz hb2 (by decide)) (fun r hr x hx => by simp only [List.mem_singleton] at hr; subst hr; simp only [List.mem_cons, List.not_mem_nil, or_false] at hx; rcases hx with rfl | rfl | rfl | rfl | rfl <;> exact noO_flat rfl) hb2
    have hb3 : M8 b3 = some (.rows 5 [[.str a5.text, v1, .isl 1 (acc.map strRow), .bool wd, .nsl]]) := hb3'
    clear hb3' h0 hown hfF hbF
    refine awp_block ?_
    refine awp_while [0, 2, 3] (msr T m w') (fun k fr M => M b2 = M8 b2 ∧ (∃ (m : Nat) (w' : Bool) (ss : List Sm) (v : AV), k = msr T m w' ∧ n ≤ m ∧ m ≤ T.length ∧ ss.length ≤ m + 1 ∧ (w' = false → ss.length ≤ m) ∧ stW w' m ((stmtsP T ss m).bind fun b c => .ok ⟨a5.text, ps, acc, wd, b⟩ c) = res ∧ OwnL 5 v (ss.map Sm.row) M ∧ Al.off v b2 ∧ Al.off v b3 ∧ M b3 = some (.rows 5 [[.str a5.text, v1, .isl 1 (acc.map strRow), .bool wd, v]]) ∧ M r0 = some (.rows 3 [[.isl 4 (T.map Tok.row), .int .i64 (m : Nat), .bool w']]))) ⟨rfl, m, w', [], .nsl, rfl, hnm, hm, Nat.zero_le _, fun _ => Nat.zero_le _, hres, .inl ⟨rfl, rfl⟩, (fun _ _ h => by cases h), (fun _ _ h => by cases h), hb3, hr0⟩ ?_
    rintro k F19 M19 ⟨gb2, m, w', ss, v, rfl, hnm, hm, hsl, hsl2, hres, hown, ho2, ho3, hb3, hr0⟩ agx K2 hK2
    have f0 := (agx 0 rfl).trans f0
    have f2 := (agx 2 rfl).trans f2
    have f3 := (agx 3 rfl).trans f3
    have hb2 := gb2.trans hb2
    have ag2 := agree.refl [0, 2, 3] F19
    have e2_b2 := gb2; clear gb2
    clear agx
    have hone := hown.one1
    have hcls := hown.cells
    rw [stmtsP_eq] at hres
    simp only [bind_ite, bind_assoc, PR.bind_ok] at hres
    have hic := is_con r0 hT m w' hm [125] (by decide)
    all_goals
      refine awp_seq ?_
      refine awp_seq_k fun K hK => ?_
      refine awp_region rfl ?_
      simp only [f0, hb2, hr0, hb3, nb2_r0, nr0_b2, nb3_r0, nr0_b3, nb3_b2, nb2_b3, List.length_map, strs, smL, smV, one_strs, w1, hone, hcls, RR, seval]
      all_goals try ((first | refine awpG_splitN (fun h => ?_) (fun h => ?_) | refine awpG_split (fun h => ?_) (fun h => ?_)) <;> simp only [h, f0, f2, f3, hb2, hr0, hb3, nb2_r0, nr0_b2, nb3_r0, nr0_b3, nb3_b2, nb2_b3, List.length_map, strs, smL, smV, one_strs, w1, hone, hcls, RR, seval])
      all_goals try ((refine awpC_jo hic (by first | exact hr0 | (simp only [f0, f2, f3, hb2, hr0, hb3, nb2_r0, nr0_b2, nb3_r0, nr0_b3, nb3_b2, nb2_b3, List.length_map, strs, smL, smV, one_strs, w1, hone, hcls, upd_app, RR, seval]; done)) trivial fun M9 hn9 hk9 => ?_; have hown := OwnL.kp hown hr0 (by decide) hk9; have e2_b2 := ((hk9 b2 _ nb2_r0 hb2).trans hb2.symm).trans e2_b2; have hb2 := hk9 b2 _ nb2_r0 hb2; have hb3 := hk9 b3 _ nb3_r0 hb3; have hr0 := hn9; clear hn9 hk9); simp only [f0, hb2, hr0, hb3, nb2_r0, nr0_b2, nb3_r0, nr0_b3, nb3_b2, nb2_b3, List.length_map, strs, smL, smV, one_strs, w1, hone, hcls, RR, seval])
      all_goals
        refine hK _ _ ?_; clear hK K
        refine awp_if _ rfl (fun hc => ?_) (fun hc => ?_)
        · try (cases hc; done)
          all_goals
            have hw2 := hc; clear hc
            have hwf : w' = false := by simpa using h
            have hq : isB T w' m [125] = false := by simpa using hw2
            have hres := is_f hq hres
            rw [if_neg (Bool.eq_false_iff.1 hq)] at hr0
            have hsl := hsl2 hwf
            refine awp_skip ?_; try simp only [RR]
            refine awp_block ?_
            refine awp_name fun F20 M20 hfr hH => ?_
            have g0 := hfr 0
            have g2 := hfr 2
            have g3 := hfr 3
            have gb2 := hH b2
            have gr0 := hH r0
            have gb3 := hH b3
            try simp only [f0, f2, f3, hb2, hr0, hb3, nb2_r0, nr0_b2, nb3_r0, nr0_b3, nb3_b2, nb2_b3, List.length_map, strs, smL, smV, one_strs, w1, hone, hcls, RR, seval] at g0 g2 g3 gb2 gr0 gb3
            have ag2 : agree [0, 2, 3] F19 F20 := agree.same hfr (by repeat (first | exact ag2 | refine agree.upd rfl ?_))
            have e2_b2 := (hH b2).trans (by first | exact e2_b2 | (simp only [nb2_r0, nr0_b2, nb3_r0, nr0_b3, nb3_b2, nb2_b3, upd_app, seval]; first | done | exact e2_b2))
            have hown := hown.same hH
            have f0 := g0; clear g0
            have f2 := g2; clear g2
            have f3 := g3; clear g3
            have hb2 := gb2; clear gb2
            have hr0 := gr0; clear gr0
            have hb3 := gb3; clear gb3
            clear hfr hH
            refine awp_region_draw2 (fun x => x ≠ b3 ∧ x ≠ b2) [(0, 3), (1, 0), (2, 3), (3, 1), (4, 2), (5, 1), (6, 3)] [(7, 1)] draws (by kernel_rfl) rfl rfl ?_
            simp only [emitF, markOf, EM, f0, f3, hb2, hr0, hb3, nb2_r0, nr0_b2, nb3_r0, nr0_b3, nb3_b2, nb2_b3, List.length_map, strs, smL, smV, one_strs, w1, hone, hcls, RR, seval]
            refine awpC_jd (jstmt_con r0 hT m w' hm) (by first | exact hr0 | (simp only [f0, f2, f3, hb2, hr0, hb3, nb2_r0, nr0_b2, nb3_r0, nr0_b3, nb3_b2, nb2_b3, List.length_map, strs, smL, smV, one_strs, w1, hone, hcls, upd_app, RR, seval]; done)) (by first | trivial | (repeat' apply And.intro) <;> assumption) fun a46 m46 w46 M21 hj46 hle46 hlt46 hn46x hk46x => ?_
            have hres := stW_step hres hj46
            have gb2 := hk46x b2 _ (by first | exact nb2_r0 | exact blk_ne hb2 hr0 (by decide) | (intro e; subst e; simp_all)) (by first | exact hb2 | exact upd_same _ _ _ | (simp only [f0, f2, f3, hb2, hr0, hb3, nb2_r0, nr0_b2, nb3_r0, nr0_b3, nb3_b2, nb2_b3, List.length_map, strs, smL, smV, one_strs, w1, hone, hcls, upd_app, RR, seval]; rfl))
            have e2_b2 := (gb2.trans hb2.symm).trans e2_b2
            have gb3 := hk46x b3 _ (by first | exact nb3_r0 | exact blk_ne hb3 hr0 (by decide) | (intro e; subst e; simp_all)) (by first | exact hb3 | exact upd_same _ _ _ | (simp only [f0, f2, f3, hb2, hr0, hb3, nb2_r0, nr0_b2, nb3_r0, nr0_b3, nb3_b2, nb2_b3, List.length_map, strs, smL, smV, one_strs, w1, hone, hcls, upd_app, RR, seval]; rfl))
            have hb2 := gb2; clear gb2
            have hb3 := gb3; clear gb3
            have hown := OwnL.kp hown hr0 (by decide) hk46x
            have hr0 := hn46x; clear hn46x hk46x
            simp only [emitF, markOf, EM, f0, f3, hb2, hr0, hb3, nb2_r0, nr0_b2, nb3_r0, nr0_b3, nb3_b2, nb2_b3, List.length_map, strs, smL, smV, one_strs, w1, hone, hcls, RR, seval]
            refine awpA_ownF hown (by simp only [List.length_map, List.length_cons, List.length_nil]; omega) (fun b e => by first | trivial | (repeat' apply And.intro) <;> (intro c; subst c; first | exact ho2 _ _ e | exact ho3 _ _ e | exact hown.nb' hr0 (by decide) e)) fun v12 M22 hown' hk' hg' => ?_
            have ho2' := hg' b2 ho2 (by rw [hb2]; exact Option.some_ne_none _)
            have ho3' := hg' b3 ho3 (by rw [hb3]; exact Option.some_ne_none _)
            simp only [emitF, markOf, EM, f0, f3, hb2, hr0, hb3, nb2_r0, nr0_b2, nb3_r0, nr0_b3, nb3_b2, nb2_b3, List.length_map, strs, smL, smV, one_strs, w1, hone, hcls, RR, seval]
            have gb2 := hk' b2 _ hb2 (by first | exact (hown).nb' hb2 (by decide) | exact ho2 _ _ | assumption | (intro e; simp_all))
            have e2_b2 := (gb2.trans hb2.symm).trans e2_b2
            have hb2 := gb2; clear gb2
            have gr0 := hk' r0 _ hr0 (by first | exact (hown).nb' hr0 (by decide) | exact ho0 _ _ | assumption | (intro e; simp_all))
            have hr0 := gr0; clear gr0
            have gb3 := hk' b3 _ hb3 (by first | exact (hown).nb' hb3 (by decide) | exact ho3 _ _ | assumption | (intro e; simp_all))
            have hb3 := gb3; clear gb3
            have hce := hown'.cells; have hoe := hown'.one1
            try simp only [emitF, markOf, EM, hce, hoe, Option.bind_some, List.drop, f0, f3, hb2, hr0, hb3, nb2_r0, nr0_b2, nb3_r0, nr0_b3, nb3_b2, nb2_b3, List.length_map, strs, smL, smV, one_strs, w1, hone, hcls, RR, seval]
            have hlt := msr_lt hwf hm hlt46 hle46 hj46 fun a m' h => (stmtP_far h).1
            have hgo : w46 = false → m < m46 := fun e => by
              subst e; subst hwf
              rw [stW_f, stW_f] at hj46
              exact (stmtP_far hj46.symm).1
            try rw [IntWalk.i64_in _ (by omega)]
            refine hK2 (msr T m46 w46) _ _ (by omega) ⟨(by first | exact e2_b2 | (simp only [nb2_r0, nr0_b2, nb3_r0, nr0_b3, nb3_b2, nb2_b3, upd_app, seval]; first | done | exact e2_b2)), m46, w46, ss ++ [a46], _, rfl, by omega, hlt46, by simp only [List.length_append, List.length_cons, List.length_nil]; omega, fun e => by have := hgo e; simp only [List.length_append, List.length_cons, List.length_nil]; omega, hres, by rw [smL_snoc]; exact hown'.off ho3' _, ho2', ho3', upd_same _ _ _, by first | exact hr0 | (simp only [f0, f2, f3, hb2, hr0, hb3, nb2_r0, nr0_b2, nb3_r0, nr0_b3, nb3_b2, nb2_b3, List.length_map, strs, smL, smV, one_strs, w1, hone, hcls, upd_app, RR, seval]; done)⟩ (by repeat (first | exact ag2 | refine agree.upd rfl ?_))
        · try (cases hc; done)
          all_goals
            have hw2 := hc; clear hc
            first
              | (have hwf : w' = true := by simpa using h
                 subst hwf
                 obtain ⟨n2, hn2e⟩ : ∃ n2 : Nat, n2 = m := ⟨_, rfl⟩
                 have hres : stW true n2 (PR.ok (⟨a5.text, ps, acc, wd, ss⟩ : Fu) n2) = res := by rw [hn2e]; exact hres
                 rw [← hn2e] at hr0
                 have hn1 : n ≤ n2 := by omega
                 have hn2 : n2 ≤ T.length := by omega)
              | (have hq : isB T w' m [125] = true := by simpa using hw2
                 have hres := is_t hq hres
                 have := isB_lt hq (by decide)
                 rw [if_pos hq] at hr0
                 obtain ⟨n2, hn2e⟩ : ∃ n2 : Nat, n2 = m + 1 := ⟨_, rfl⟩
                 rw [← hn2e] at hres hr0
                 have hn1 : n ≤ n2 := by omega
                 have hn2 : n2 ≤ T.length := by omega)
            refine awp_exit ?_; simp only [RR, seval]
            refine awp_name fun F23 M23 hfr hH => ?_
            have g2 := hfr 2
            have g3 := hfr 3
            have gb2 := hH b2
            have gr0 := hH r0
            have gb3 := hH b3
            try simp only [f0, f2, f3, hb2, hr0, hb3, nb2_r0, nr0_b2, nb3_r0, nr0_b3, nb3_b2, nb2_b3, List.length_map, strs, smL, smV, one_strs, w1, hone, hcls, RR, seval] at g2 g3 gb2 gr0 gb3
            have hown := hown.same hH
            have f2 := g2; clear g2
            have f3 := g3; clear g3
            have hb2 := gb2; clear gb2
            have hr0 := gr0; clear gr0
            have hb3 := gb3; clear gb3
            clear hfr hH
            have h0 : M23 b3 = some (.rows 5 [[.str a5.text, v1, .isl 1 (acc.map strRow), .bool wd] ++ v :: []]) := hb3
            refine awp_sealP hown h0 (fun x hx => by simp only [List.mem_cons, List.not_mem_nil, or_false] at hx; rcases hx with rfl | rfl | rfl | rfl <;> first | exact noO_flat rfl | exact noO_flat fl1) (fun x hx => by cases hx) ho3 fun F9a M9a hfF hb3' hbF => ?_
            have f2 := (hfF 2 (by rw [f2]; exact noO_flat rfl)).trans f2
            have f3 := (hfF 3 (by rw [f3]; exact noO_flat rfl)).trans f3
            have hr0 := hbF r0 _ _ nr0_b3 (hown.offsz hr0 (by decide)) (fun r hr x hx => by simp only [List.mem_singleton] at hr; subst hr; simp only [List.mem_cons, List.not_mem_nil, or_false] at hx; rcases hx with rfl | rfl | rfl <;> exact noO_flat rfl) hr0
            have hb2 := hbF b2 _ _ nb2_b3 ho2 (fun r hr x hx => by simp only [List.mem_singleton] at hr; subst hr; simp only [List.mem_cons, List.not_mem_nil, or_false] at hx; rcases hx with rfl | rfl | rfl | rfl | rfl <;> exact noO_flat rfl) hb2
            have hb3 : M9a b3 = some (.rows 5 [[.str a5.text, v1, .isl 1 (acc.map strRow), .bool wd, .isl 5 (ss.map Sm.row)]]) := hb3'
            clear hb3' h0 hfF hbF
            refine awp_seq_k fun K hK => ?_
            refine awp_region rfl ?_
            simp only [f2, f3, hb2, hr0, hb3, nb2_r0, nr0_b2, nb3_r0, nr0_b3, nb3_b2, nb2_b3, List.length_map, strs, smL, smV, one_strs, w1, hone, hcls, RR, seval]
            refine hK _ _ ?_; clear hK K
            refine awp_ret ?_; simp only [bodyQ, aresult, ares, f2, f3, hb2, hr0, hb3, nb2_r0, nr0_b2, nb3_r0, nr0_b3, nb3_b2, nb2_b3, List.length_map, strs, smL, smV, one_strs, w1, hone, hcls, RR, seval]
            refine jgives (by first | exact hr0 | (simp only [f2, f3, hb2, hr0, hb3, nb2_r0, nr0_b2, nb3_r0, nr0_b3, nb3_b2, nb2_b3, List.length_map, strs, smL, smV, one_strs, w1, hone, hcls, upd_app, RR, seval]; done)) hres ?_ hn1 hn2
            exact Sub.aggR (SubR.cons (Sub.refl _) (SubR.cons hsub (SubR.cons (Sub.refl _) (SubR.cons (Sub.refl _) (SubR.cons (Sub.refl _) SubR.nil)))))
end Go.Proofs.YtlpeikljipknoaaDoor
