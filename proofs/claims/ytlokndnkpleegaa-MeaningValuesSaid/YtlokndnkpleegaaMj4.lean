/- Chapter 18, the judge's: the value of an expression alone; the law's count of parts. -/
import Derived.Test.YtlokndnkpleegaaMj3
import Derived.Test.YtlokndnkpleegaaMst
set_option linter.unusedSimpArgs false
set_option linter.unusedVariables false
set_option maxRecDepth 10000
namespace Go.Al
theorem szE_snoc (e : Ex) : ∀ l : List Ex, szE (l ++ [e]) = szE l + e.sz
  | [] => by simp [szE]
  | x :: l => by simp only [List.cons_append, szE, szE_snoc e l]; omega
theorem plE_drop {l : List Ex} {k : Nat} {e : Ex} (h : l[k]? = some e) : plE (l.drop k) = (plX e && plE (l.drop (k + 1))) := by
  obtain ⟨h1, h2⟩ := List.getElem?_eq_some_iff.1 h
  rw [List.drop_eq_getElem_cons h1, h2]; simp only [plE]
end Go.Al
namespace Go.Proofs.Ytlokndnkpleegaa
open Go.Al
theorem parts_con (n : Nat) : ∀ e : Ex, e.sz ≤ n → n ≤ 4611686018427387904 → PCon env 24 [.agg e.row] (.int .i64 ((e.sz : Nat) : Int)) := by
  induction n using Nat.strongRecOn with
  | _ n ih =>
    intro e hn hb
    have hz := e.sz_eq
    rw [e.row_eq]
    generalize e.kind = k1 at *
    generalize e.op = k2 at *
    generalize e.num = k3 at *
    generalize e.name = k4 at *
    generalize e.kids = l at *
    have hll : l.length ≤ szE l := by
      clear hn hz
      induction l with
      | nil => simp
      | cons x l ihl => have := x.sz_eq; simp only [szE, List.length_cons]; omega
    refine con_of 21 [.tmp 2] Try.func24 rfl rfl rfl rfl ?_
    refine awp_seq_k fun K hK => ?_
    refine awp_region rfl ?_
    simp only [List.length_map, RR, seval]
    refine awpN_intro fun b1 hn1 => ?_
    simp only [List.length_map, RR, seval]
    refine hK _ _ ?_; clear hK K
    refine awp_seq_k fun K hK => ?_
    refine awp_region rfl ?_
    simp only [List.length_map, RR, seval]
    refine hK _ _ ?_; clear hK K
    refine awp_seq ?_
    refine awp_seq_k fun K hK => ?_
    refine awp_region rfl ?_
    simp only [List.length_map, RR, seval]
    refine hK _ _ ?_; clear hK K
    refine awp_name fun F1 M1 hfr hH => ?_
    have g1 := hfr 1
    have g2 := hfr 2
    have g3 := hfr 3
    have g4 := hfr 4
    have gb1 := hH b1
    try simp only [List.length_map, RR, seval] at g1 g2 g3 g4 gb1
    have f1 := g1; clear g1
    have f2 := g2; clear g2
    have f3 := g3; clear g3
    have f4 := g4; clear g4
    have hb1 := gb1; clear gb1
    clear hfr hH
    refine awp_block ?_
    refine awp_each [1, 2] (l.length) (fun k fr M => fr 4 = .int .i64 (k : Nat) ∧ M b1 = M1 b1 ∧ fr 3 = .int .i64 ((1 + szE (l.take k) : Nat) : Int)) ⟨f4, rfl, f3⟩ ?_
    rintro k F2 M2 hk0 ⟨fx, gb1, f3⟩ agx K0 hK0
    have f1 := (agx 1 rfl).trans f1
    have f2 := (agx 2 rfl).trans f2
    have f4 := fx; clear fx
    have hb1 := gb1.trans hb1
    have ag0 := agree.refl [1, 2] F2
    have e0_b1 := gb1; clear gb1
    clear agx
    refine awp_seq ?_
    refine awp_seq_k fun K hK => ?_
    refine awp_region rfl ?_
    simp only [f1, f4, hb1, List.length_map, RR, seval]
    refine hK _ _ ?_; clear hK K
    refine awp_if _ rfl (fun hc => ?_) (fun hc => ?_)
    · have hlt0 : k < l.length := by have := of_decide_eq_true hc; omega
      clear hc
      have hg := getE (List.getElem?_eq_getElem hlt0)
      have hsz := szE_mem (List.getElem_mem hlt0)
      have htk : l.take (k + 1) = l.take k ++ [l[k]] := List.take_succ_eq_append_getElem hlt0
      have hzt : szE (l.take (k + 1)) = szE (l.take k) + (l[k]).sz := by rw [htk, szE_snoc]
      have hle := szE_take l (k + 1)
      generalize l[k] = x at *
      have hih := ih x.sz (by omega) x (Nat.le_refl _) (by omega)
      rw [x.row_eq] at hih
      have e1 : IntKind.wrap .i64 (((1 + szE (l.take k) : Nat) : Int) + ((x.sz : Nat) : Int)) = ((1 + szE (l.take (k + 1)) : Nat) : Int) := by rw [IntWalk.i64_in _ (by omega), hzt]; omega
      refine awp_skip ?_; try simp only [RR]
      refine awp_seq ?_
      refine awp_block ?_
      refine awp_region rfl ?_
      simp only [f1, f4, f3, hb1, List.length_map, hg, e1, RR, seval]
      refine awpC_pure' (hih) ?_
      simp only [f1, f4, f3, hb1, List.length_map, hg, e1, RR, seval]
      refine awp_region rfl ?_
      simp only [f4, List.length_map, hg, e1, RR, seval]
      try rw [IntWalk.i64_in _ (by omega)]
      refine hK0 _ _ hlt0 ⟨by first | rfl | (simp only [upd_app, seval]; rfl), (by first | exact e0_b1 | (simp only [upd_app, seval]; first | done | exact e0_b1)), rfl⟩ (by repeat (first | exact ag0 | refine agree.upd rfl ?_))
    · have hkn0 : k = l.length := by have := of_decide_eq_false hc; omega
      clear hc
      rw [hkn0, List.take_length, ← hz] at f3
      refine awp_exit ?_; simp only [RR, seval]
      refine awp_seq_k fun K hK => ?_
      refine awp_region rfl ?_
      simp only [f3, List.length_map, RR, seval]
      refine hK _ _ ?_; clear hK K
      refine awp_ret ?_; simp only [bodyQ, aresult, ares, f2, List.length_map, RR, seval]
      refine Gives.pure ?_
      rfl
theorem jplain_con (n : Nat) : ∀ e : Ex, e.sz ≤ n → e.ok → PCon env 41 [.agg e.row] (.bool (plX e)) := by
  induction n using Nat.strongRecOn with
  | _ n ih =>
    intro e hn he
    have hz := e.sz_eq
    have hk := he.kids
    rw [e.row_eq]
    obtain ⟨k, o, m, s, l⟩ := e
    simp only [Ex.kind, Ex.op, Ex.num, Ex.name, Ex.kids] at *
    have hl := hk.fit
    simp only [fitL] at hl
    have hq : plX (.mk k o m s l) = (!(decide (k = 2) || decide (k = 3) || decide (k = 4) || decide (k = 5)) && plE l) := by simp only [plX]
    by_cases hb : k = 2 ∨ k = 3 ∨ k = 4 ∨ k = 5
    · have hf : plX (.mk k o m s l) = false := by
        rw [hq]
        rcases hb with rfl | rfl | rfl | rfl <;> rfl
      rw [hf]
      rcases hb with rfl | rfl | rfl | rfl
      all_goals
        refine con_of 36 [.tmp 2] Try.func41 rfl rfl rfl rfl ?_
        refine awp_seq_k fun K hK => ?_
        refine awp_region rfl ?_
        simp only [RR, seval]
        refine awpN_intro fun b1 hn1 => ?_
        simp only [RR, seval]
        refine hK _ _ ?_; clear hK K
        refine awp_seq ?_
        refine awp_seq_k fun K hK => ?_
        refine awp_region rfl ?_
        simp only [RR, seval]
        repeat' ((first | refine awpG_splitN (fun h => ?_) (fun h => ?_) | refine awpG_split (fun h => ?_) (fun h => ?_)) <;> simp only [h, RR, seval])
        all_goals
          refine hK _ _ ?_; clear hK K
          refine awp_if true rfl (fun _ => ?_) (fun hc => by cases hc)
          refine awp_seq_k fun K hK => ?_
          refine awp_region rfl ?_
          simp only [RR, seval]
          refine hK _ _ ?_; clear hK K
          refine awp_ret ?_; simp only [bodyQ, aresult, ares, RR, seval]
          refine Gives.pure ?_
          rfl
    · have d2 : ¬ k = 2 := fun h => hb (.inl h)
      have d3 : ¬ k = 3 := fun h => hb (.inr (.inl h))
      have d4 : ¬ k = 4 := fun h => hb (.inr (.inr (.inl h)))
      have d5 : ¬ k = 5 := fun h => hb (.inr (.inr (.inr h)))
      have hq : plX (.mk k o m s l) = plE l := by rw [hq]; simp [d2, d3, d4, d5]
      rw [hq]
      refine con_of 36 [.tmp 2] Try.func41 rfl rfl rfl rfl ?_
      refine awp_seq_k fun K hK => ?_
      refine awp_region rfl ?_
      simp only [List.length_map, d2, d3, d4, d5, RR, seval]
      refine awpN_intro fun b1 hn1 => ?_
      simp only [List.length_map, d2, d3, d4, d5, RR, seval]
      refine hK _ _ ?_; clear hK K
      refine awp_seq ?_
      refine awp_seq_k fun K hK => ?_
      refine awp_region rfl ?_
      simp only [List.length_map, d2, d3, d4, d5, RR, seval]
      repeat' ((first | refine awpG_splitN (fun h => ?_) (fun h => ?_) | refine awpG_split (fun h => ?_) (fun h => ?_)) <;> simp only [h, List.length_map, d2, d3, d4, d5, RR, seval])
      all_goals
        refine hK _ _ ?_; clear hK K
        refine awp_if false rfl (fun hc => by cases hc) (fun _ => ?_)
        refine awp_skip ?_; try simp only [RR]
        refine awp_seq ?_
        refine awp_seq_k fun K hK => ?_
        refine awp_region rfl ?_
        simp only [List.length_map, d2, d3, d4, d5, RR, seval]
        refine hK _ _ ?_; clear hK K
        refine awp_name fun F1 M1 hfr hH => ?_
        have g1 := hfr 1
        have g2 := hfr 2
        have g3 := hfr 3
        have gb1 := hH b1
        try simp only [List.length_map, d2, d3, d4, d5, RR, seval] at g1 g2 g3 gb1
        have f1 := g1; clear g1
        have f2 := g2; clear g2
        have f3 := g3; clear g3
        have hb1 := gb1; clear gb1
        clear hfr hH
        refine awp_block ?_
        refine awp_each [1] (l.length) (fun k1 fr M => fr 3 = .int .i64 (k1 : Nat) ∧ M b1 = M1 b1 ∧ plE l = plE (l.drop k1)) ⟨f3, rfl, rfl⟩ ?_
        rintro k1 F2 M2 hk0 ⟨fx, gb1, hall⟩ agx K0 hK0
        have f1 := (agx 1 rfl).trans f1
        have f3 := fx; clear fx
        have hb1 := gb1.trans hb1
        have ag0 := agree.refl [1] F2
        have e0_b1 := gb1; clear gb1
        clear agx
        refine awp_seq ?_
        refine awp_seq_k fun K hK => ?_
        refine awp_region rfl ?_
        simp only [f1, f3, hb1, List.length_map, d2, d3, d4, d5, RR, seval]
        refine hK _ _ ?_; clear hK K
        refine awp_if _ rfl (fun hc => ?_) (fun hc => ?_)
        · have hlt0 : k1 < l.length := by have := of_decide_eq_true hc; omega
          clear hc
          have hg0 := List.getElem?_eq_getElem hlt0
          have hg := getE hg0
          have hsz := szE_mem (List.getElem_mem hlt0)
          have heo := hk.all _ (List.getElem_mem hlt0)
          rw [plE_drop hg0] at hall
          generalize l[k1] = e at *
          have hih := ih e.sz (by omega) e (Nat.le_refl _) heo
          rw [e.row_eq] at hih
          generalize plX e = B at *
          refine awp_skip ?_; try simp only [RR]
          refine awp_seq ?_
          refine awp_block ?_
          refine awp_seq_k fun K hK => ?_
          refine awp_region rfl ?_
          simp only [f1, f3, hb1, List.length_map, d2, d3, d4, d5, hg, RR, seval]
          refine awpC_pure' (hih) ?_
          simp only [f1, f3, hb1, List.length_map, d2, d3, d4, d5, hg, RR, seval]
          refine hK _ _ ?_; clear hK K
          refine awp_if _ rfl (fun hc6 => ?_) (fun hc6 => ?_)
          · try (cases hc6; done)
            all_goals
              have hB : B = false := by simpa using hc6
              refine awp_seq_k fun K hK => ?_
              refine awp_region rfl ?_
              simp only [List.length_map, d2, d3, d4, d5, hg, RR, seval]
              refine hK _ _ ?_; clear hK K
              refine awp_ret ?_; simp only [bodyQ, aresult, ares, List.length_map, d2, d3, d4, d5, hg, RR, seval]
              refine Gives.pure ?_
              rw [hall, hB]; rfl
          · try (cases hc6; done)
            all_goals
              have hB : B = true := by simpa using hc6
              refine awp_skip ?_; try simp only [RR]
              refine awp_region rfl ?_
              simp only [f3, List.length_map, d2, d3, d4, d5, hg, RR, seval]
              try rw [IntWalk.i64_in _ (by omega)]
              refine hK0 _ _ hlt0 ⟨by first | rfl | (simp only [upd_app, seval]; rfl), (by first | exact e0_b1 | (simp only [upd_app, seval]; first | done | exact e0_b1)), by rw [hall, hB]; rfl⟩ (by repeat (first | exact ag0 | refine agree.upd rfl ?_))
        · have hkn0 : k1 = l.length := by have := of_decide_eq_false hc; omega
          clear hc
          rw [hkn0, List.drop_length] at hall
          refine awp_exit ?_; simp only [RR, seval]
          refine awp_seq_k fun K hK => ?_
          refine awp_region rfl ?_
          simp only [List.length_map, d2, d3, d4, d5, RR, seval]
          refine hK _ _ ?_; clear hK K
          refine awp_ret ?_; simp only [bodyQ, aresult, ares, List.length_map, d2, d3, d4, d5, RR, seval]
          refine Gives.pure ?_
          rw [hall]; rfl
theorem JValue_con (n : Nat) (e : Ex) (p : Int × Int) (level : Int) (hr : rightX e level = true) (hp : plX e = true → valX n e = some p) (he : e.ok) : PCon env 26 [.agg e.row] (.tup [.int .u32 (if plX e then p.1 else 0), .int .i64 (if plX e then p.2 else 1)]) := by
  have h1 := jplain_con _ e (Nat.le_refl _) he
  cases hx : plX e with
  | false =>
    rw [hx] at h1
    rw [e.row_eq] at *
    refine con_of 22 [.tmp 2, .tmp 3] Try.func26 rfl rfl rfl rfl ?_
    refine awp_seq_k fun K hK => ?_
    refine awp_region rfl ?_
    simp only [RR, seval]
    refine awpN_intro fun b1 hn1 => ?_
    simp only [RR, seval]
    refine hK _ _ ?_; clear hK K
    refine awp_seq ?_
    refine awp_seq_k fun K hK => ?_
    refine awp_region rfl ?_
    simp only [RR, seval]
    refine awpC_pure' (h1) ?_
    simp only [RR, seval]
    refine hK _ _ ?_; clear hK K
    refine awp_if true rfl (fun _ => ?_) (fun hc => by cases hc)
    refine awp_seq_k fun K hK => ?_
    refine awp_region rfl ?_
    simp only [RR, seval]
    refine hK _ _ ?_; clear hK K
    refine awp_ret ?_; simp only [bodyQ, aresult, ares, RR, seval]
    refine Gives.pure ?_
    rfl
  | true =>
    rw [hx] at h1
    obtain ⟨hu1, hu2⟩ := pl_use hx
    have hv := val_ev ⟨[], [], 0⟩ (fun _ => (false, 0)) [] ⟨[], [], 0, [], 0⟩ n e level p hr hx (hp hx)
    obtain ⟨o, ho1, ho2⟩ : ∃ o, evE ⟨[], [], 0⟩ n (fun _ => (false, 0)) [] e ⟨[], [], 0, [], 0⟩ = some o ∧ ((p.2 = 0 ∧ o = .val p.1 ⟨[], [], 0, [], 0⟩) ∨ (p = (0, 14) ∧ o = .fin 2 ⟨[], [], 0, [], 0⟩)) := by
      by_cases hz : p.2 = 0
      · exact ⟨_, hv.1 hz, .inl ⟨hz, rfl⟩⟩
      · exact ⟨_, (hv.2 hz).2, .inr ⟨(hv.2 hz).1, rfl⟩⟩
    have hj : JOk ⟨[], [], []⟩ ⟨[], [], 0⟩ := ⟨rfl, ⟨by simp, by simp, (fun f hf => by cases hf), (fun f hf => by cases hf)⟩, (fun j g hg => by simp at hg), by simp⟩
    have hV := fun r H hR x => (prgJ (r := r) (vv := .nsl) (abs := []) hj n).V 0 (fun _ => (false, 0)) [] e ⟨[], [], 0, [], 0⟩ .nsl 0 H x .nsl false 0 o he (fun u hu => by rw [hu1] at hu; cases hu) (fun u hu => by rw [hu2] at hu; cases hu) hR OwnW.nil (fun y hy => by cases hy)
    rw [e.row_eq] at *
    refine con_of 22 [.tmp 2, .tmp 3] Try.func26 rfl rfl rfl rfl ?_
    refine awp_seq_k fun K hK => ?_
    refine awp_region rfl ?_
    simp only [RR, seval]
    refine awpN_intro fun b1 hn1 => ?_
    simp only [RR, seval]
    refine hK _ _ ?_; clear hK K
    refine awp_seq ?_
    refine awp_seq_k fun K hK => ?_
    refine awp_region rfl ?_
    simp only [RR, seval]
    refine awpC_pure' (h1) ?_
    simp only [RR, seval]
    refine hK _ _ ?_; clear hK K
    refine awp_if false rfl (fun hc => by cases hc) (fun _ => ?_)
    refine awp_skip ?_; try simp only [RR]
    refine awp_seq_k fun K hK => ?_
    refine awp_region rfl ?_
    simp only [RR, seval]
    refine awpN_intro fun b10 hn10 => ?_
    have nb10_b1 : b10 ≠ b1 := fun e => by rw [e] at hn10; simp only [RR, seval, reduceCtorEq] at hn10
    have nb1_b10 : b1 ≠ b10 := fun e => nb10_b1 e.symm
    simp only [nb10_b1, nb1_b10, RR, seval]
    refine hK _ _ ?_; clear hK K
    refine awp_name fun F1 M1 hfr hH => ?_
    have g1 := hfr 1
    have g2 := hfr 2
    have g3 := hfr 3
    have g4 := hfr 4
    have gb1 := hH b1
    have gb10 := hH b10
    try simp only [nb10_b1, nb1_b10, RR, seval] at g1 g2 g3 g4 gb1 gb10
    have f1 := g1; clear g1
    have f2 := g2; clear g2
    have f3 := g3; clear g3
    have f4 := g4; clear g4
    have hb1 := gb1; clear gb1
    have hb10 := gb10; clear gb10
    clear hfr hH
    refine awp_weak1 hb10 (SubR.cons (Sub.nsl 1) (SubR.cons (Sub.nsl 2) (SubR.cons (Sub.nsl 5) (SubR.cons (Sub.refl (.str [])) (SubR.cons (Sub.refl (.int .i64 0)) (SubR.cons (Sub.refl .nsl) (SubR.cons (Sub.nsl 1) (SubR.mid.SubR_self [.nsl, .int .i64 0, .int .i64 0, .int .i64 0])))))))) ?_
    refine awp_seq_k fun K hK => ?_
    refine awp_region rfl ?_
    simp only [f1, f4, hb1, hb10, nb10_b1, nb1_b10, RR, seval]
    refine awpN_intro fun b13 hn13 => ?_
    have nb13_b1 : b13 ≠ b1 := fun e => by rw [e] at hn13; simp only [hb1, nb10_b1, nb1_b10, RR, seval, reduceCtorEq] at hn13
    have nb1_b13 : b1 ≠ b13 := fun e => nb13_b1 e.symm
    have nb13_b10 : b13 ≠ b10 := fun e => by rw [e] at hn13; simp only [hb10, nb10_b1, nb1_b10, RR, seval, reduceCtorEq] at hn13
    have nb10_b13 : b10 ≠ b13 := fun e => nb13_b10 e.symm
    have nb13_b10 : b13 ≠ b10 := fun e => by rw [e] at hn13; simp only [hb10, nb10_b1, nb1_b10, RR, seval, reduceCtorEq] at hn13
    have nb10_b13 : b10 ≠ b13 := fun e => nb13_b10 e.symm
    simp only [f1, f4, hb1, hb10, nb10_b1, nb1_b10, nb13_b1, nb1_b13, nb13_b10, nb10_b13, nb13_b10, nb10_b13, RR, seval]
    have hR0 : RunJ ⟨[], [], []⟩ ⟨[], [], 0⟩ b10 .nsl [] ⟨[], [], 0, [], 0⟩ .nsl 0 (Al.upd M1 b10 (some (.rows 11 [[.isl 1 [], .isl 2 [], .isl 5 [], .str [], .int .i64 0, .nsl, .isl 1 [], .nsl, .int .i64 0, .int .i64 0, .int .i64 0]]))) := ⟨by rw [upd_same]; rfl, .inl ⟨rfl, rfl⟩, rfl, (fun i b l h => by simp at h), List.nodup_nil, (fun b h => by cases h), .inl ⟨rfl, rfl⟩, (fun _ _ _ e => by cases e), (fun b h => by cases h), (fun x h => by cases h), (fun l h => by cases h), by simp, by simp, by simp⟩
    refine awpC_J (hV b10 _ (hR0.new hn13 _) b13 (upd_same _ _ _) (.inl ⟨rfl, ho1⟩)) (fun _ => trivial) fun w vo1 H1 uw hwv hne hR1 hk1 => ?_
    have hb10 := hR1.r
    simp only [RR, seval]
    refine hK _ _ ?_; clear hK K
    refine awp_seq ?_
    refine awp_seq_k fun K hK => ?_
    refine awp_region rfl ?_
    simp only [f4, hb10, nb10_b1, nb1_b10, nb13_b1, nb1_b13, nb13_b10, nb10_b13, nb13_b10, nb10_b13, RR, seval]
    refine hK _ _ ?_; clear hK K
    refine awp_if _ rfl (fun hc5 => ?_) (fun hc5 => ?_)
    · obtain ⟨e1, s1, rfl⟩ := enR_fin (o := o) (by simpa using hc5)
      obtain ⟨rfl⟩ : p = (0, 14) := by
        rcases ho2 with ⟨_, h⟩ | ⟨h, _⟩
        · cases h
        · exact h
      refine awp_seq_k fun K hK => ?_
      refine awp_region rfl ?_
      simp only [RR, seval]
      refine hK _ _ ?_; clear hK K
      refine awp_ret ?_; simp only [bodyQ, aresult, ares, f2, f3, RR, seval]
      refine Gives.pure ?_
      rfl
    · obtain ⟨v1, s1, rfl⟩ := enR_val (o := o) hne (by simpa using hc5)
      obtain rfl := hwv _ _ rfl
      obtain ⟨hp0, hpw⟩ : p.2 = 0 ∧ p.1 = w := by
        rcases ho2 with ⟨h1, h2⟩ | ⟨_, h⟩
        · cases h2; exact ⟨h1, rfl⟩
        · cases h
      refine awp_skip ?_; try simp only [RR]
      refine awp_seq_k fun K hK => ?_
      refine awp_region rfl ?_
      simp only [RR, seval]
      refine hK _ _ ?_; clear hK K
      refine awp_ret ?_; simp only [bodyQ, aresult, ares, f2, f3, RR, seval]
      refine Gives.pure ?_
      rw [hp0, hpw]
end Go.Proofs.Ytlokndnkpleegaa
