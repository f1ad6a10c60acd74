/- Chapter 15, the judge's: statements. Chapter 15, the judge's: a statement. -/
import Derived.Test.YtlpeikljipknoaaDoorJb
set_option linter.unusedSimpArgs false
set_option linter.unusedVariables false
set_option maxRecDepth 10000
namespace Go.Al
def LstV (sz : Nat) (v : AV) (rows : List (List AV)) (H : Hp) : Prop := OwnL sz v rows H ∨ v = .isl sz rows
theorem LstV.one1 {sz : Nat} {v : AV} {rows : List (List AV)} {H : Hp} (h : LstV sz v rows H) : one v = true := by
  rcases h with h | rfl
  · exact h.one1
  · rfl
theorem LstV.cells {sz : Nat} {v : AV} {rows : List (List AV)} {H : Hp} (h : LstV sz v rows H) : cellsOf v = some [v] := by
  rcases h with h | rfl
  · exact h.cells
  · rfl
theorem LstV.same {sz : Nat} {v : AV} {rows : List (List AV)} {H H' : Hp} (h : LstV sz v rows H) (hH : ∀ b, H' b = H b) : LstV sz v rows H' := by
  rcases h with h | rfl
  · exact .inl (h.same hH)
  · exact .inr rfl
theorem awp_sealL {E : Env} {N : Nat} {Q : APost} {c : Code} {fr : Fr} {H : Hp} {b0 sz sz' : Nat} {pre post : List AV} {v : AV} {rows : List (List AV)} (hv : LstV sz v rows H) (h0 : H b0 = some (.rows sz' [pre ++ v :: post])) (hp : ∀ x ∈ pre, noO v x) (hq : ∀ x ∈ post, noO v x) (ho : ∀ s n, v ≠ .osl s b0 n)
    (h : ∀ fr' H', (∀ j, flatV (fr j) = true → fr' j = fr j) → H' b0 = some (.rows sz' [pre ++ .isl sz rows :: post]) → (∀ b s l, b ≠ b0 → (∀ s n, v ≠ .osl s b n) → (l.all fun r => r.all flatV) = true → H b = some (.rows s l) → H' b = some (.rows s l)) → awp E N c Q fr' H') : awp E N c Q fr H := by
  rcases hv with hv | rfl
  · refine awp_sealP hv h0 hp hq (fun s n => ho s n) fun fr' H' h1 h2 h3 => h fr' H' (fun j hj => h1 j (noO_flat hj)) h2 fun b s l e1 e2 e3 => h3 b s l e1 (fun s n => e2 s n) fun r hr x hx => noO_flat ?_
    simp only [List.all_eq_true] at e3
    exact e3 r hr x hx
  · exact h fr H (fun _ _ => rfl) h0 fun b s l _ _ _ hb => hb
end Go.Al
namespace Go.Proofs.YtlpeikljipknoaaDoor
open Go.Al
theorem namedP_eq' (T : List Tok) (n : Nat) : namedP T n = (takeI T 1 n).bind fun t m =>
    (if peekI T m = [40] then (argsP T (m + 1)).bind fun l m => .ok (.mk 6 t.text l [] []) m
     else if peekI T m = [91] then (exprP T 1 (m + 1)).bind fun a m => (mustI T [93] m).bind fun _ m => (mustI T [61] m).bind fun _ m => (exprP T 1 m).bind fun e m => .ok (.mk 2 t.text [a, e] [] []) m
     else (mustI T [61] m).bind fun _ m => (exprP T 1 m).bind fun e m => .ok (.mk 1 t.text [e] [] []) m : PR Sm).bind fun s m => (mustI T [59] m).bind fun _ m => .ok s m := by
  unfold namedP
  refine PR.bind_congr rfl fun t m _ => ?_
  congr 1
  by_cases h1 : peekI T m = [61]
  · have e : mustI T [61] m = .ok () (m + 1) := if_pos h1
    rw [h1, e]; rfl
  · have e : mustI T [61] m = .bad m := if_neg h1
    rw [if_neg h1, e, PR.bind_bad]
    by_cases h2 : peekI T m = [91]
    · rw [h2]; simp
    · simp only [if_neg h2]
theorem jcond_con (r0 : Nat) {T : List Tok} (hT : Sz T) (n : Nat) (w : Bool) (hn : n ≤ T.length) : JCon 108 [] r0 T n w exL (stW w n (roundP T n)) := by
  unfold JCon
  generalize hres : stW w n (roundP T n) = res
  unfold roundP at hres
  have hlen := hT.len
  have hr0 := jdH_at r0 T n w
  refine con_of 12 [.tmp 2] Tryd.func108 rfl rfl rfl rfl ?_
  refine awp_seq_k fun K hK => ?_
  refine awp_region rfl ?_
  simp only [List.length_map, exV, exL, RR, seval]
  refine hK _ _ ?_; clear hK K
  refine awp_seq_k fun K hK => ?_
  refine awp_region rfl ?_
  simp only [hr0, List.length_map, exV, exL, RR, seval]
  refine awpC_jd (jmust_con r0 hT n w hn [40] (by decide)) (by first | exact hr0 | (simp only [hr0, List.length_map, exV, exL, upd_app, RR, seval]; done)) trivial fun a5 m5 w5 M1 hj5 hle5 hlt5 hn5x hk5x => ?_
  have hres := stW_step hres hj5
  have hr0 := hn5x; clear hn5x hk5x
  simp only [hr0, List.length_map, exV, exL, RR, seval]
  refine hK _ _ ?_; clear hK K
  refine awp_seq_k fun K hK => ?_
  refine awp_region rfl ?_
  simp only [hr0, List.length_map, exV, exL, RR, seval]
  refine awpC_jd (jexpr_con r0 hT m5 w5 hlt5) (by first | exact hr0 | (simp only [hr0, List.length_map, exV, exL, upd_app, RR, seval]; done)) trivial fun a7 m7 w7 M2 hj7 hle7 hlt7 hn7x hk7x => ?_
  have hres := stW_step hres hj7
  have hr0 := hn7x; clear hn7x hk7x
  simp only [hr0, List.length_map, exV, exL, RR, seval]
  refine awpN_intro fun b3 hn3 => ?_
  have nb3_r0 : b3 ≠ r0 := fun e => by rw [e] at hn3; simp only [hr0, RR, seval, reduceCtorEq] at hn3
  have nr0_b3 : r0 ≠ b3 := fun e => nb3_r0 e.symm
  simp only [hr0, nb3_r0, nr0_b3, List.length_map, exV, exL, RR, seval]
  refine hK _ _ ?_; clear hK K
  refine awp_seq_k fun K hK => ?_
  refine awp_region rfl ?_
  simp only [hr0, nb3_r0, nr0_b3, List.length_map, exV, exL, RR, seval]
  refine awpC_jd (jmust_con r0 hT m7 w7 hlt7 [41] (by decide)) (by first | exact hr0 | (simp only [hr0, nb3_r0, nr0_b3, List.length_map, exV, exL, upd_app, RR, seval]; done)) trivial fun a9 m9 w9 M3 hj9 hle9 hlt9 hn9x hk9x => ?_
  have hres := stW_step hres hj9
  have gb3 := hk9x b3 _ (by first | exact nb3_r0 | exact blk_ne hb3 hr0 (by decide) | (intro e; subst e; simp_all)) (by first | exact upd_same _ _ _ | (simp only [hr0, nb3_r0, nr0_b3, List.length_map, exV, exL, upd_app, RR, seval]; rfl))
  have hb3 := gb3; clear gb3
  have hr0 := hn9x; clear hn9x hk9x
  simp only [hr0, hb3, nb3_r0, nr0_b3, List.length_map, exV, exL, RR, seval]
  refine hK _ _ ?_; clear hK K
  refine awp_seq_k fun K hK => ?_
  refine awp_region rfl ?_
  simp only [hr0, hb3, nb3_r0, nr0_b3, List.length_map, exV, exL, RR, seval]
  refine awpB_sealed ?_
  simp only [hr0, hb3, nb3_r0, nr0_b3, List.length_map, exV, exL, RR, seval]
  refine hK _ _ ?_; clear hK K
  refine awp_ret ?_; simp only [bodyQ, aresult, ares, List.length_map, exV, exL, RR, seval]
  refine jgives (by first | exact hr0 | (simp only [hr0, hb3, nb3_r0, nr0_b3, List.length_map, exV, exL, upd_app, RR, seval]; done)) hres ?_ (by omega) (by omega)
  simp only [exL, List.map_cons, List.map_nil, Ex.row_eq]
  exact Sub.refl _
def jstmtC (r0 : Nat) (T : List Tok) (n : Nat) (w : Bool) : Prop := JCon 88 [] r0 T n w smV (stW w n (stmtP T n))
def jbodyC (r0 : Nat) (T : List Tok) (n : Nat) (w : Bool) : Prop := JCon 109 [] r0 T n w smL (stW w n (bodyP T n))
def msr (T : List Tok) (m : Nat) (w : Bool) : Nat := 2 * (T.length - m) + (if w = true then 0 else 1)
theorem msr_lt {α : Type} {T : List Tok} {m m' : Nat} {w w' : Bool} {a : α} {X : PR α} (hw : w = false) (hm : m ≤ T.length) (hm' : m' ≤ T.length) (hle : m ≤ m') (hj : stW w' m' (PR.ok a m') = stW w m X) (hX : ∀ a m', X = .ok a m' → m < m') : msr T m' w' < msr T m w := by
  subst hw
  unfold msr
  cases w' with
  | true => simp; omega
  | false =>
    rw [stW_f, stW_f] at hj
    have := hX a m' hj.symm
    simp; omega
theorem jbody_step (r0 : Nat) {T : List Tok} (hT : Sz T) (n : Nat) (w : Bool) (hn : n ≤ T.length) (ih : ∀ m w, n ≤ m → m ≤ T.length → jstmtC r0 T m w) : jbodyC r0 T n w := by
  unfold jbodyC JCon
  generalize hres : stW w n (bodyP T n) = res
  rw [bodyP_eq] at hres
  have hlen := hT.len
  have hr0 := jdH_at r0 T n w
  refine con_of 22 [.tmp 2] Tryd.func109 rfl rfl rfl rfl ?_
  refine awp_seq_k fun K hK => ?_
  refine awp_region rfl ?_
  simp only [List.length_map, smV, RR, seval]
  refine hK _ _ ?_; clear hK K
  refine awp_seq_k fun K hK => ?_
  refine awp_region rfl ?_
  simp only [hr0, List.length_map, smV, RR, seval]
  refine awpC_jd (jmust_con r0 hT n w hn [123] (by decide)) (by first | exact hr0 | (simp only [hr0, List.length_map, smV, upd_app, RR, seval]; done)) trivial fun a5 m5 w5 M1 hj5 hle5 hlt5 hn5x hk5x => ?_
  have hres := stW_step hres hj5
  have hr0 := hn5x; clear hn5x hk5x
  simp only [hr0, List.length_map, smV, RR, seval]
  refine hK _ _ ?_; clear hK K
  refine awp_seq_k fun K hK => ?_
  refine awp_region rfl ?_
  simp only [List.length_map, smV, RR, seval]
  refine hK _ _ ?_; clear hK K
  refine awp_seq ?_
  refine awp_name fun F2 M2 hfr hH => ?_
  have g0 := hfr 0
  have g2 := hfr 2
  have g3 := hfr 3
  have gr0 := hH r0
  try simp only [hr0, List.length_map, smV, RR, seval] at g0 g2 g3 gr0
  have f0 := g0; clear g0
  have f2 := g2; clear g2
  have f3 := g3; clear g3
  have hr0 := gr0; clear gr0
  clear hfr hH
  refine awp_block ?_
  refine awp_while [0, 2] (msr T m5 w5) (fun k fr M => (∃ (m : Nat) (w' : Bool) (acc : List Sm), k = msr T m w' ∧ n ≤ m ∧ m ≤ T.length ∧ acc.length ≤ m + 1 ∧ (w' = false → acc.length ≤ m) ∧ stW w' m (stmtsP T acc m) = res ∧ OwnL 5 (fr 3) (acc.map Sm.row) M ∧ M r0 = some (.rows 3 [[.isl 4 (T.map Tok.row), .int .i64 (m : Nat), .bool w']]))) ⟨m5, w5, [], rfl, hle5, hlt5, Nat.zero_le _, fun _ => Nat.zero_le _, hres, .inl ⟨f3, rfl⟩, hr0⟩ ?_
  rintro k F3 M3 ⟨m, w', acc, rfl, hnm, hm, hal, hal2, hres, hown, hr0⟩ agx K0 hK0
  have f0 := (agx 0 rfl).trans f0
  have f2 := (agx 2 rfl).trans f2
  have ag0 := agree.refl [0, 2] F3
  clear agx
  obtain ⟨v3, f3⟩ : ∃ v, F3 3 = v := ⟨_, rfl⟩
  rw [f3] at hown
  rw [stmtsP_eq] at hres
  have hic := is_con r0 hT m w' hm [125] (by decide)
  all_goals
    refine awp_seq ?_
    refine awp_seq_k fun K hK => ?_
    refine awp_region rfl ?_
    simp only [f0, hr0, List.length_map, smV, RR, seval]
    all_goals try ((first | refine awpG_splitN (fun h => ?_) (fun h => ?_) | refine awpG_split (fun h => ?_) (fun h => ?_)) <;> simp only [h, f0, f2, f3, hr0, List.length_map, smV, RR, seval])
    all_goals try ((refine awpC_jo hic (by first | exact hr0 | (simp only [f0, f2, f3, hr0, List.length_map, smV, upd_app, RR, seval]; done)) trivial fun M9 hn9 hk9 => ?_; have hown := OwnL.kp hown hr0 (by decide) hk9; have hr0 := hn9; clear hn9 hk9); simp only [f0, hr0, List.length_map, smV, RR, seval])
    all_goals
      refine hK _ _ ?_; clear hK K
      refine awp_if _ rfl (fun hc => ?_) (fun hc => ?_)
      · try (cases hc; done)
        all_goals
          have hw0 := hc; clear hc
          have hwf : w' = false := by simpa using h
          have hq : isB T w' m [125] = false := by simpa using hw0
          have hres := is_f hq hres
          rw [if_neg (Bool.eq_false_iff.1 hq)] at hr0
          have hal := hal2 hwf
          refine awp_skip ?_; try simp only [RR]
          refine awp_block ?_
          refine awp_region rfl ?_
          simp only [f0, f3, hr0, List.length_map, smV, RR, seval]
          refine awpC_jd (ih m w' hnm hm) (by first | exact hr0 | (simp only [f0, f2, f3, hr0, List.length_map, smV, upd_app, RR, seval]; done)) trivial fun a18 m18 w18 M4 hj18 hle18 hlt18 hn18x hk18x => ?_
          have hres := stW_step hres hj18
          have hown := OwnL.kp hown hr0 (by decide) hk18x
          have hr0 := hn18x; clear hn18x hk18x
          simp only [f0, f3, hr0, List.length_map, smV, RR, seval]
          refine awpB_sealed ?_
          simp only [f0, f3, hr0, List.length_map, smV, RR, seval]
          refine awpA_own hown (by simp only [List.length_map, List.length_cons, List.length_nil]; omega) (fun _ => trivial) fun v4 M5 hown' hk' => ?_
          simp only [f0, f3, hr0, List.length_map, smV, RR, seval]
          have gr0 := hk' r0 _ hr0 (by first | exact (hown).nb' hr0 (by decide) | exact ho0 _ _ | assumption | (intro e; simp_all))
          have hr0 := gr0; clear gr0
          have hlt := msr_lt hwf hm hlt18 hle18 hj18 fun a m' h => (stmtP_far h).1
          have hgo : w18 = false → m < m18 := fun e => by
            subst e; subst hwf
            rw [stW_f, stW_f] at hj18
            exact (stmtP_far hj18.symm).1
          try rw [IntWalk.i64_in _ (by omega)]
          refine hK0 (msr T m18 w18) _ _ (by omega) ⟨m18, w18, acc ++ [a18], rfl, by omega, hlt18, by simp only [List.length_append, List.length_cons, List.length_nil]; omega, fun e => by have := hgo e; simp only [List.length_append, List.length_cons, List.length_nil]; omega, hres, by rw [smL_snoc]; exact hown', by first | exact hr0 | (simp only [f0, f2, f3, hr0, List.length_map, smV, upd_app, RR, seval]; done)⟩ (by repeat (first | exact ag0 | refine agree.upd rfl ?_))
      · try (cases hc; done)
        all_goals
          have hw0 := hc; clear hc
          first
            | (have hwf : w' = true := by simpa using h
               subst hwf
               obtain ⟨n2, hn2e⟩ : ∃ n2 : Nat, n2 = m := ⟨_, rfl⟩
               have hres : stW true n2 (PR.ok acc n2) = res := by rw [hn2e]; exact hres
               rw [← hn2e] at hr0
               have hn1 : n ≤ n2 := by omega
               have hn2 : n2 ≤ T.length := by omega)
            | (have hq : isB T w' m [125] = true := by simpa using hw0
               have hres := is_t hq hres
               have := isB_lt hq (by decide)
               rw [if_pos hq] at hr0
               obtain ⟨n2, hn2e⟩ : ∃ n2 : Nat, n2 = m + 1 := ⟨_, rfl⟩
               rw [← hn2e] at hres hr0
               have hn1 : n ≤ n2 := by omega
               have hn2 : n2 ≤ T.length := by omega)
          refine awp_exit ?_; simp only [RR, seval]
          refine awp_seq_k fun K hK => ?_
          refine awp_region rfl ?_
          simp only [f3, List.length_map, smV, RR, seval]
          refine hK _ _ ?_; clear hK K
          refine awp_ret ?_; simp only [bodyQ, aresult, ares, f2, List.length_map, smV, RR, seval]
          refine jgivesL (a := acc) hown (by decide) (by first | exact hr0 | (simp only [f0, f2, f3, hr0, List.length_map, smV, upd_app, RR, seval]; done)) hres ?_ hn1 hn2
          exact Sub.refl _
end Go.Proofs.YtlpeikljipknoaaDoor

namespace Go.Al
theorem LstV.offsz {sz sz' : Nat} {v : AV} {rows r2 : List (List AV)} {H : Hp} (h : LstV sz v rows H) {b : Nat} (hb : H b = some (.rows sz' r2)) (hs : sz' ≠ sz) : ∀ s n, v ≠ .osl s b n := by
  rcases h with h | rfl
  · exact h.offsz hb hs
  · intro s n e; cases e
end Go.Al
namespace Go.Proofs.YtlpeikljipknoaaDoor
open Go.Al
theorem bind_ite {α β : Type} (c : Prop) [Decidable c] (A B : PR α) (K : α → Nat → PR β) : (if c then A else B).bind K = if c then A.bind K else B.bind K := by split <;> rfl
set_option maxHeartbeats 8000000 in
theorem jstmt_step (r0 : Nat) {T : List Tok} (hT : Sz T) (n : Nat) (w : Bool) (hn : n ≤ T.length) (ih : ∀ m w, n < m → m ≤ T.length → jbodyC r0 T m w) : jstmtC r0 T n w := by
  unfold jstmtC JCon
  generalize hres : stW w n (stmtP T n) = res
  rw [stmtP_eq, namedP_eq'] at hres
  have hlen := hT.len
  have hr0 := jdH_at r0 T n w
  refine con_of 101 [.cell 2 72] Tryd.func88 rfl rfl rfl rfl ?_
  refine awp_seq_k fun K hK => ?_
  refine awp_region rfl ?_
  simp only [hr0, List.length_map, exL, smL, smV, exV, RR, seval]
  refine awpN_intro fun b2 hn2 => ?_
  have nb2_r0 : b2 ≠ r0 := fun e => by rw [e] at hn2; simp only [hr0, RR, seval, reduceCtorEq] at hn2
  have nr0_b2 : r0 ≠ b2 := fun e => nb2_r0 e.symm
  simp only [hr0, nb2_r0, nr0_b2, List.length_map, exL, smL, smV, exV, RR, seval]
  refine hK _ _ ?_; clear hK K
  refine awp_seq ?_
  refine awp_block ?_
  refine awp_seq_k fun K hK => ?_
  refine awp_region rfl ?_
  simp only [hr0, nb2_r0, nr0_b2, List.length_map, exL, smL, smV, exV, RR, seval]
  refine awpC_jo (is_con r0 hT n w hn wPut (by decide)) (by first | exact hr0 | (simp only [hr0, nb2_r0, nr0_b2, List.length_map, exL, smL, smV, exV, upd_app, RR, seval]; done)) trivial fun M1 hn10x hk10x => ?_
  have gb2 := hk10x b2 _ (by first | exact nb2_r0 | exact blk_ne hb2 hr0 (by decide) | (intro e; subst e; simp_all)) (by first | exact upd_same _ _ _ | (simp only [hr0, nb2_r0, nr0_b2, List.length_map, exL, smL, smV, exV, upd_app, RR, seval]; rfl))
  have hb2 := gb2; clear gb2
  have hr0 := hn10x; clear hn10x hk10x
  simp only [hr0, hb2, nb2_r0, nr0_b2, List.length_map, exL, smL, smV, exV, RR, seval]
  refine hK _ _ ?_; clear hK K
  refine awp_if _ rfl (fun hc1 => ?_) (fun hc1 => ?_)
  · have hres := is_t hc1 hres
    rw [if_pos hc1] at hr0
    have hlt1 := isB_lt hc1 (by first | assumption | decide)
    refine awp_seq_k fun K hK => ?_
    refine awp_region rfl ?_
    simp only [hr0, hb2, nb2_r0, nr0_b2, List.length_map, exL, smL, smV, exV, RR, seval]
    refine awpC_jd (jcond_con r0 hT (n + 1) w (by omega)) (by first | exact hr0 | (simp only [hr0, hb2, nb2_r0, nr0_b2, List.length_map, exL, smL, smV, exV, upd_app, RR, seval]; done)) trivial fun a12 m12 w12 M2 hj12 hle12 hlt12 hn12x hk12x => ?_
    have hres := stW_step hres hj12
    have gb2 := hk12x b2 _ (by first | exact nb2_r0 | exact blk_ne hb2 hr0 (by decide) | (intro e; subst e; simp_all)) (by first | exact hb2 | exact upd_same _ _ _ | (simp only [hr0, hb2, nb2_r0, nr0_b2, List.length_map, exL, smL, smV, exV, upd_app, RR, seval]; rfl))
    have hb2 := gb2; clear gb2
    have hr0 := hn12x; clear hn12x hk12x
    simp only [hr0, hb2, nb2_r0, nr0_b2, List.length_map, exL, smL, smV, exV, RR, seval]
    refine awpN_intro fun b3 hn3 => ?_
    have nb3_r0 : b3 ≠ r0 := fun e => by rw [e] at hn3; simp only [hr0, nb2_r0, nr0_b2, RR, seval, reduceCtorEq] at hn3
    have nr0_b3 : r0 ≠ b3 := fun e => nb3_r0 e.symm
    have nb3_b2 : b3 ≠ b2 := fun e => by rw [e] at hn3; simp only [hb2, nb2_r0, nr0_b2, RR, seval, reduceCtorEq] at hn3
    have nb2_b3 : b2 ≠ b3 := fun e => nb3_b2 e.symm
    simp only [hr0, hb2, nb2_r0, nr0_b2, nb3_r0, nr0_b3, nb3_b2, nb2_b3, List.length_map, exL, smL, smV, exV, RR, seval]
    refine hK _ _ ?_; clear hK K
    refine awp_seq_k fun K hK => ?_
    refine awp_region rfl ?_
    simp only [hr0, hb2, nb2_r0, nr0_b2, nb3_r0, nr0_b3, nb3_b2, nb2_b3, List.length_map, exL, smL, smV, exV, RR, seval]
    refine awpC_jd (jmust_con r0 hT m12 w12 hlt12 [59] (by decide)) (by first | exact hr0 | (simp only [hr0, hb2, nb2_r0, nr0_b2, nb3_r0, nr0_b3, nb3_b2, nb2_b3, List.length_map, exL, smL, smV, exV, upd_app, RR, seval]; done)) trivial fun a15 m15 w15 M3 hj15 hle15 hlt15 hn15x hk15x => ?_
    have hres := stW_step hres hj15
    have gb2 := hk15x b2 _ (by first | exact nb2_r0 | exact blk_ne hb2 hr0 (by decide) | (intro e; subst e; simp_all)) (by first | exact hb2 | exact upd_same _ _ _ | (simp only [hr0, hb2, nb2_r0, nr0_b2, nb3_r0, nr0_b3, nb3_b2, nb2_b3, List.length_map, exL, smL, smV, exV, upd_app, RR, seval]; rfl))
    have gb3 := hk15x b3 _ (by first | exact nb3_r0 | exact blk_ne hb3 hr0 (by decide) | (intro e; subst e; simp_all)) (by first | exact upd_same _ _ _ | (simp only [hr0, hb2, nb2_r0, nr0_b2, nb3_r0, nr0_b3, nb3_b2, nb2_b3, List.length_map, exL, smL, smV, exV, upd_app, RR, seval]; rfl))
    have hb2 := gb2; clear gb2
    have hb3 := gb3; clear gb3
    have hr0 := hn15x; clear hn15x hk15x
    simp only [hr0, hb2, hb3, nb2_r0, nr0_b2, nb3_r0, nr0_b3, nb3_b2, nb2_b3, List.length_map, exL, smL, smV, exV, RR, seval]
    refine hK _ _ ?_; clear hK K
    refine awp_seq_k fun K hK => ?_
    refine awp_region rfl ?_
    simp only [hr0, hb2, hb3, nb2_r0, nr0_b2, nb3_r0, nr0_b3, nb3_b2, nb2_b3, List.length_map, exL, smL, smV, exV, RR, seval]
    refine hK _ _ ?_; clear hK K
    refine awp_ret ?_; simp only [bodyQ, aresult, ares, hr0, hb2, hb3, nb2_r0, nr0_b2, nb3_r0, nr0_b3, nb3_b2, nb2_b3, List.length_map, exL, smL, smV, exV, RR, seval]
    refine jgives (by first | exact hr0 | (simp only [hr0, hb2, hb3, nb2_r0, nr0_b2, nb3_r0, nr0_b3, nb3_b2, nb2_b3, List.length_map, exL, smL, smV, exV, upd_app, RR, seval]; done)) hres ?_ (by omega) (by omega)
    simp only [smV, Sm.kind, Sm.name, Sm.es, Sm.thn, Sm.els, List.map_cons, List.map_nil, Ex.row_eq]
    exact Sub.aggR (by repeat' (first | exact SubR.nil | exact SubRs.nil | exact Sub.refl _ | exact Sub.nsl _ | refine SubR.cons ?_ ?_ | refine SubRs.cons ?_ ?_ | refine Sub.isl ?_ | refine Sub.aggR ?_))
  · have hres := is_f hc1 hres
    rw [if_neg (Bool.eq_false_iff.1 hc1)] at hr0
    refine awp_seq_k fun K hK => ?_
    refine awp_region rfl ?_
    simp only [hr0, hb2, nb2_r0, nr0_b2, List.length_map, exL, smL, smV, exV, RR, seval]
    refine awpC_jo (is_con r0 hT n w hn wReturn (by decide)) (by first | exact hr0 | (simp only [hr0, hb2, nb2_r0, nr0_b2, List.length_map, exL, smL, smV, exV, upd_app, RR, seval]; done)) trivial fun M4 hn19x hk19x => ?_
    have gb2 := hk19x b2 _ (by first | exact nb2_r0 | exact blk_ne hb2 hr0 (by decide) | (intro e; subst e; simp_all)) (by first | exact hb2 | exact upd_same _ _ _ | (simp only [hr0, hb2, nb2_r0, nr0_b2, List.length_map, exL, smL, smV, exV, upd_app, RR, seval]; rfl))
    have hb2 := gb2; clear gb2
    have hr0 := hn19x; clear hn19x hk19x
    simp only [hr0, hb2, nb2_r0, nr0_b2, List.length_map, exL, smL, smV, exV, RR, seval]
    refine hK _ _ ?_; clear hK K
    refine awp_if _ rfl (fun hc5 => ?_) (fun hc5 => ?_)
    · have hres := is_t hc5 hres
      rw [if_pos hc5] at hr0
      have hlt5 := isB_lt hc5 (by first | assumption | decide)
      refine awp_seq_k fun K hK => ?_
      refine awp_region rfl ?_
      simp only [hr0, hb2, nb2_r0, nr0_b2, List.length_map, exL, smL, smV, exV, RR, seval]
      refine awpN_intro fun b4 hn4 => ?_
      have nb4_r0 : b4 ≠ r0 := fun e => by rw [e] at hn4; simp only [hr0, nb2_r0, nr0_b2, RR, seval, reduceCtorEq] at hn4
      have nr0_b4 : r0 ≠ b4 := fun e => nb4_r0 e.symm
      have nb4_b2 : b4 ≠ b2 := fun e => by rw [e] at hn4; simp only [hb2, nb2_r0, nr0_b2, RR, seval, reduceCtorEq] at hn4
      have nb2_b4 : b2 ≠ b4 := fun e => nb4_b2 e.symm
      simp only [hr0, hb2, nb2_r0, nr0_b2, nb4_r0, nr0_b4, nb4_b2, nb2_b4, List.length_map, exL, smL, smV, exV, RR, seval]
      refine hK _ _ ?_; clear hK K
      refine awp_seq ?_
      refine awp_seq_k fun K hK => ?_
      refine awp_region rfl ?_
      simp only [hr0, hb2, nb2_r0, nr0_b2, nb4_r0, nr0_b4, nb4_b2, nb2_b4, List.length_map, exL, smL, smV, exV, RR, seval]
      refine awpC_jo (is_con r0 hT (n + 1) w (by omega) [59] (by decide)) (by first | exact hr0 | (simp only [hr0, hb2, nb2_r0, nr0_b2, nb4_r0, nr0_b4, nb4_b2, nb2_b4, List.length_map, exL, smL, smV, exV, upd_app, RR, seval]; done)) trivial fun M5 hn22x hk22x => ?_
      have gb2 := hk22x b2 _ (by first | exact nb2_r0 | exact blk_ne hb2 hr0 (by decide) | (intro e; subst e; simp_all)) (by first | exact hb2 | exact upd_same _ _ _ | (simp only [hr0, hb2, nb2_r0, nr0_b2, nb4_r0, nr0_b4, nb4_b2, nb2_b4, List.length_map, exL, smL, smV, exV, upd_app, RR, seval]; rfl))
      have gb4 := hk22x b4 _ (by first | exact nb4_r0 | exact blk_ne hb4 hr0 (by decide) | (intro e; subst e; simp_all)) (by first | exact upd_same _ _ _ | (simp only [hr0, hb2, nb2_r0, nr0_b2, nb4_r0, nr0_b4, nb4_b2, nb2_b4, List.length_map, exL, smL, smV, exV, upd_app, RR, seval]; rfl))
      have hb2 := gb2; clear gb2
      have hb4 := gb4; clear gb4
      have hr0 := hn22x; clear hn22x hk22x
      simp only [hr0, hb2, hb4, nb2_r0, nr0_b2, nb4_r0, nr0_b4, nb4_b2, nb2_b4, List.length_map, exL, smL, smV, exV, RR, seval]
      refine hK _ _ ?_; clear hK K
      refine awp_if _ rfl (fun hc7 => ?_) (fun hc7 => ?_)
      · simp only [Bool.not_eq_true', Bool.not_eq_false', Bool.not_true, Bool.not_false] at hc7
        have hres := is_f hc7 hres
        rw [if_neg (Bool.eq_false_iff.1 hc7)] at hr0
        refine awp_seq_k fun K hK => ?_
        refine awp_region rfl ?_
        simp only [hr0, hb2, hb4, nb2_r0, nr0_b2, nb4_r0, nr0_b4, nb4_b2, nb2_b4, List.length_map, exL, smL, smV, exV, RR, seval]
        refine awpC_jd (jexpr_con r0 hT (n + 1) w (by omega)) (by first | exact hr0 | (simp only [hr0, hb2, hb4, nb2_r0, nr0_b2, nb4_r0, nr0_b4, nb4_b2, nb2_b4, List.length_map, exL, smL, smV, exV, upd_app, RR, seval]; done)) trivial fun a25 m25 w25 M6 hj25 hle25 hlt25 hn25x hk25x => ?_
        have hres := stW_step hres hj25
        have gb2 := hk25x b2 _ (by first | exact nb2_r0 | exact blk_ne hb2 hr0 (by decide) | (intro e; subst e; simp_all)) (by first | exact hb2 | exact upd_same _ _ _ | (simp only [hr0, hb2, hb4, nb2_r0, nr0_b2, nb4_r0, nr0_b4, nb4_b2, nb2_b4, List.length_map, exL, smL, smV, exV, upd_app, RR, seval]; rfl))
        have gb4 := hk25x b4 _ (by first | exact nb4_r0 | exact blk_ne hb4 hr0 (by decide) | (intro e; subst e; simp_all)) (by first | exact hb4 | exact upd_same _ _ _ | (simp only [hr0, hb2, hb4, nb2_r0, nr0_b2, nb4_r0, nr0_b4, nb4_b2, nb2_b4, List.length_map, exL, smL, smV, exV, upd_app, RR, seval]; rfl))
        have hb2 := gb2; clear gb2
        have hb4 := gb4; clear gb4
        have hr0 := hn25x; clear hn25x hk25x
        simp only [hr0, hb2, hb4, nb2_r0, nr0_b2, nb4_r0, nr0_b4, nb4_b2, nb2_b4, List.length_map, exL, smL, smV, exV, RR, seval]
        refine awpB_sealed ?_
        simp only [hr0, hb2, hb4, nb2_r0, nr0_b2, nb4_r0, nr0_b4, nb4_b2, nb2_b4, List.length_map, exL, smL, smV, exV, RR, seval]
        refine hK _ _ ?_; clear hK K
        refine awp_region rfl ?_
        simp only [hr0, hb2, hb4, nb2_r0, nr0_b2, nb4_r0, nr0_b4, nb4_b2, nb2_b4, List.length_map, exL, smL, smV, exV, RR, seval]
        refine awpC_jd (jmust_con r0 hT m25 w25 hlt25 [59] (by decide)) (by first | exact hr0 | (simp only [hr0, hb2, hb4, nb2_r0, nr0_b2, nb4_r0, nr0_b4, nb4_b2, nb2_b4, List.length_map, exL, smL, smV, exV, upd_app, RR, seval]; done)) trivial fun a29 m29 w29 M7 hj29 hle29 hlt29 hn29x hk29x => ?_
        have hres := stW_step hres hj29
        have gb2 := hk29x b2 _ (by first | exact nb2_r0 | exact blk_ne hb2 hr0 (by decide) | (intro e; subst e; simp_all)) (by first | exact hb2 | exact upd_same _ _ _ | (simp only [hr0, hb2, hb4, nb2_r0, nr0_b2, nb4_r0, nr0_b4, nb4_b2, nb2_b4, List.length_map, exL, smL, smV, exV, upd_app, RR, seval]; rfl))
        have gb4 := hk29x b4 _ (by first | exact nb4_r0 | exact blk_ne hb4 hr0 (by decide) | (intro e; subst e; simp_all)) (by first | exact hb4 | exact upd_same _ _ _ | (simp only [hr0, hb2, hb4, nb2_r0, nr0_b2, nb4_r0, nr0_b4, nb4_b2, nb2_b4, List.length_map, exL, smL, smV, exV, upd_app, RR, seval]; rfl))
        have hb2 := gb2; clear gb2
        have hb4 := gb4; clear gb4
        have hr0 := hn29x; clear hn29x hk29x
        simp only [hr0, hb2, hb4, nb2_r0, nr0_b2, nb4_r0, nr0_b4, nb4_b2, nb2_b4, List.length_map, exL, smL, smV, exV, RR, seval]
        refine awp_seq_k fun K hK => ?_
        refine awp_region rfl ?_
        simp only [hr0, hb2, hb4, nb2_r0, nr0_b2, nb4_r0, nr0_b4, nb4_b2, nb2_b4, List.length_map, exL, smL, smV, exV, RR, seval]
        refine hK _ _ ?_; clear hK K
        refine awp_ret ?_; simp only [bodyQ, aresult, ares, hr0, hb2, hb4, nb2_r0, nr0_b2, nb4_r0, nr0_b4, nb4_b2, nb2_b4, List.length_map, exL, smL, smV, exV, RR, seval]
        refine jgives (by first | exact hr0 | (simp only [hr0, hb2, hb4, nb2_r0, nr0_b2, nb4_r0, nr0_b4, nb4_b2, nb2_b4, List.length_map, exL, smL, smV, exV, upd_app, RR, seval]; done)) hres ?_ (by omega) (by omega)
        simp only [smV, Sm.kind, Sm.name, Sm.es, Sm.thn, Sm.els, List.map_cons, List.map_nil, Ex.row_eq]
        exact Sub.aggR (by repeat' (first | exact SubR.nil | exact SubRs.nil | exact Sub.refl _ | exact Sub.nsl _ | refine SubR.cons ?_ ?_ | refine SubRs.cons ?_ ?_ | refine Sub.isl ?_ | refine Sub.aggR ?_))
      · simp only [Bool.not_eq_true', Bool.not_eq_false', Bool.not_true, Bool.not_false] at hc7
        have hres := is_t hc7 hres
        rw [if_pos hc7] at hr0
        have hlt7 := isB_lt hc7 (by first | assumption | decide)
        refine awp_skip ?_; try simp only [RR]
        refine awp_seq_k fun K hK => ?_
        refine awp_region rfl ?_
        simp only [hr0, hb2, hb4, nb2_r0, nr0_b2, nb4_r0, nr0_b4, nb4_b2, nb2_b4, List.length_map, exL, smL, smV, exV, RR, seval]
        refine hK _ _ ?_; clear hK K
        refine awp_ret ?_; simp only [bodyQ, aresult, ares, hr0, hb2, hb4, nb2_r0, nr0_b2, nb4_r0, nr0_b4, nb4_b2, nb2_b4, List.length_map, exL, smL, smV, exV, RR, seval]
        refine jgives (by first | exact hr0 | (simp only [hr0, hb2, hb4, nb2_r0, nr0_b2, nb4_r0, nr0_b4, nb4_b2, nb2_b4, List.length_map, exL, smL, smV, exV, upd_app, RR, seval]; done)) hres ?_ (by omega) (by omega)
        simp only [smV, Sm.kind, Sm.name, Sm.es, Sm.thn, Sm.els, List.map_cons, List.map_nil, Ex.row_eq]
        exact Sub.aggR (by repeat' (first | exact SubR.nil | exact SubRs.nil | exact Sub.refl _ | exact Sub.nsl _ | refine SubR.cons ?_ ?_ | refine SubRs.cons ?_ ?_ | refine Sub.isl ?_ | refine Sub.aggR ?_))
    · have hres := is_f hc5 hres
      rw [if_neg (Bool.eq_false_iff.1 hc5)] at hr0
      refine awp_seq_k fun K hK => ?_
      refine awp_region rfl ?_
      simp only [hr0, hb2, nb2_r0, nr0_b2, List.length_map, exL, smL, smV, exV, RR, seval]
      refine awpC_jo (is_con r0 hT n w hn wIf (by decide)) (by first | exact hr0 | (simp only [hr0, hb2, nb2_r0, nr0_b2, List.length_map, exL, smL, smV, exV, upd_app, RR, seval]; done)) trivial fun M8 hn33x hk33x => ?_
      have gb2 := hk33x b2 _ (by first | exact nb2_r0 | exact blk_ne hb2 hr0 (by decide) | (intro e; subst e; simp_all)) (by first | exact hb2 | exact upd_same _ _ _ | (simp only [hr0, hb2, nb2_r0, nr0_b2, List.length_map, exL, smL, smV, exV, upd_app, RR, seval]; rfl))
      have hb2 := gb2; clear gb2
      have hr0 := hn33x; clear hn33x hk33x
      simp only [hr0, hb2, nb2_r0, nr0_b2, List.length_map, exL, smL, smV, exV, RR, seval]
      refine hK _ _ ?_; clear hK K
      refine awp_if _ rfl (fun hc11 => ?_) (fun hc11 => ?_)
      · have hres := is_t hc11 hres
        rw [if_pos hc11] at hr0
        have hlt11 := isB_lt hc11 (by first | assumption | decide)
        refine awp_seq_k fun K hK => ?_
        refine awp_region rfl ?_
        simp only [hr0, hb2, nb2_r0, nr0_b2, List.length_map, exL, smL, smV, exV, RR, seval]
        refine awpC_jd (jcond_con r0 hT (n + 1) w (by omega)) (by first | exact hr0 | (simp only [hr0, hb2, nb2_r0, nr0_b2, List.length_map, exL, smL, smV, exV, upd_app, RR, seval]; done)) trivial fun a35 m35 w35 M9 hj35 hle35 hlt35 hn35x hk35x => ?_
        have hres := stW_step hres hj35
        have gb2 := hk35x b2 _ (by first | exact nb2_r0 | exact blk_ne hb2 hr0 (by decide) | (intro e; subst e; simp_all)) (by first | exact hb2 | exact upd_same _ _ _ | (simp only [hr0, hb2, nb2_r0, nr0_b2, List.length_map, exL, smL, smV, exV, upd_app, RR, seval]; rfl))
        have hb2 := gb2; clear gb2
        have hr0 := hn35x; clear hn35x hk35x
        simp only [hr0, hb2, nb2_r0, nr0_b2, List.length_map, exL, smL, smV, exV, RR, seval]
        refine awpN_intro fun b5 hn5 => ?_
        have nb5_r0 : b5 ≠ r0 := fun e => by rw [e] at hn5; simp only [hr0, nb2_r0, nr0_b2, RR, seval, reduceCtorEq] at hn5
        have nr0_b5 : r0 ≠ b5 := fun e => nb5_r0 e.symm
        have nb5_b2 : b5 ≠ b2 := fun e => by rw [e] at hn5; simp only [hb2, nb2_r0, nr0_b2, RR, seval, reduceCtorEq] at hn5
        have nb2_b5 : b2 ≠ b5 := fun e => nb5_b2 e.symm
        simp only [hr0, hb2, nb2_r0, nr0_b2, nb5_r0, nr0_b5, nb5_b2, nb2_b5, List.length_map, exL, smL, smV, exV, RR, seval]
        refine hK _ _ ?_; clear hK K
        refine awp_seq_k fun K hK => ?_
        refine awp_region rfl ?_
        simp only [hr0, hb2, nb2_r0, nr0_b2, nb5_r0, nr0_b5, nb5_b2, nb2_b5, List.length_map, exL, smL, smV, exV, RR, seval]
        refine awpC_jd (ih m35 w35 (by omega) hlt35) (by first | exact hr0 | (simp only [hr0, hb2, nb2_r0, nr0_b2, nb5_r0, nr0_b5, nb5_b2, nb2_b5, List.length_map, exL, smL, smV, exV, upd_app, RR, seval]; done)) trivial fun a38 m38 w38 M10 hj38 hle38 hlt38 hn38x hk38x => ?_
        have hres := stW_step hres hj38
        have gb2 := hk38x b2 _ (by first | exact nb2_r0 | exact blk_ne hb2 hr0 (by decide) | (intro e; subst e; simp_all)) (by first | exact hb2 | exact upd_same _ _ _ | (simp only [hr0, hb2, nb2_r0, nr0_b2, nb5_r0, nr0_b5, nb5_b2, nb2_b5, List.length_map, exL, smL, smV, exV, upd_app, RR, seval]; rfl))
        have gb5 := hk38x b5 _ (by first | exact nb5_r0 | exact blk_ne hb5 hr0 (by decide) | (intro e; subst e; simp_all)) (by first | exact upd_same _ _ _ | (simp only [hr0, hb2, nb2_r0, nr0_b2, nb5_r0, nr0_b5, nb5_b2, nb2_b5, List.length_map, exL, smL, smV, exV, upd_app, RR, seval]; rfl))
        have hb2 := gb2; clear gb2
        have hb5 := gb5; clear gb5
        have hr0 := hn38x; clear hn38x hk38x
        simp only [hr0, hb2, hb5, nb2_r0, nr0_b2, nb5_r0, nr0_b5, nb5_b2, nb2_b5, List.length_map, exL, smL, smV, exV, RR, seval]
        refine hK _ _ ?_; clear hK K
        refine awp_seq ?_
        refine awp_seq_k fun K hK => ?_
        refine awp_region rfl ?_
        simp only [hr0, hb2, hb5, nb2_r0, nr0_b2, nb5_r0, nr0_b5, nb5_b2, nb2_b5, List.length_map, exL, smL, smV, exV, RR, seval]
        refine awpC_jo (is_con r0 hT m38 w38 hlt38 wElse (by decide)) (by first | exact hr0 | (simp only [hr0, hb2, hb5, nb2_r0, nr0_b2, nb5_r0, nr0_b5, nb5_b2, nb2_b5, List.length_map, exL, smL, smV, exV, upd_app, RR, seval]; done)) trivial fun M11 hn41x hk41x => ?_
        have gb2 := hk41x b2 _ (by first | exact nb2_r0 | exact blk_ne hb2 hr0 (by decide) | (intro e; subst e; simp_all)) (by first | exact hb2 | exact upd_same _ _ _ | (simp only [hr0, hb2, hb5, nb2_r0, nr0_b2, nb5_r0, nr0_b5, nb5_b2, nb2_b5, List.length_map, exL, smL, smV, exV, upd_app, RR, seval]; rfl))
        have gb5 := hk41x b5 _ (by first | exact nb5_r0 | exact blk_ne hb5 hr0 (by decide) | (intro e; subst e; simp_all)) (by first | exact hb5 | exact upd_same _ _ _ | (simp only [hr0, hb2, hb5, nb2_r0, nr0_b2, nb5_r0, nr0_b5, nb5_b2, nb2_b5, List.length_map, exL, smL, smV, exV, upd_app, RR, seval]; rfl))
        have hb2 := gb2; clear gb2
        have hb5 := gb5; clear gb5
        have hr0 := hn41x; clear hn41x hk41x
        simp only [hr0, hb2, hb5, nb2_r0, nr0_b2, nb5_r0, nr0_b5, nb5_b2, nb2_b5, List.length_map, exL, smL, smV, exV, RR, seval]
        refine hK _ _ ?_; clear hK K
        refine awp_if _ rfl (fun hc14 => ?_) (fun hc14 => ?_)
        · have hres := is_t hc14 hres
          rw [if_pos hc14] at hr0
          have hlt14 := isB_lt hc14 (by first | assumption | decide)
          refine awp_region rfl ?_
          simp only [hr0, hb2, hb5, nb2_r0, nr0_b2, nb5_r0, nr0_b5, nb5_b2, nb2_b5, List.length_map, exL, smL, smV, exV, RR, seval]
          refine awpC_jd (ih (m38 + 1) w38 (by omega) (by omega)) (by first | exact hr0 | (simp only [hr0, hb2, hb5, nb2_r0, nr0_b2, nb5_r0, nr0_b5, nb5_b2, nb2_b5, List.length_map, exL, smL, smV, exV, upd_app, RR, seval]; done)) trivial fun a43 m43 w43 M12 hj43 hle43 hlt43 hn43x hk43x => ?_
          have hres := stW_step hres hj43
          have gb2 := hk43x b2 _ (by first | exact nb2_r0 | exact blk_ne hb2 hr0 (by decide) | (intro e; subst e; simp_all)) (by first | exact hb2 | exact upd_same _ _ _ | (simp only [hr0, hb2, hb5, nb2_r0, nr0_b2, nb5_r0, nr0_b5, nb5_b2, nb2_b5, List.length_map, exL, smL, smV, exV, upd_app, RR, seval]; rfl))
          have gb5 := hk43x b5 _ (by first | exact nb5_r0 | exact blk_ne hb5 hr0 (by decide) | (intro e; subst e; simp_all)) (by first | exact hb5 | exact upd_same _ _ _ | (simp only [hr0, hb2, hb5, nb2_r0, nr0_b2, nb5_r0, nr0_b5, nb5_b2, nb2_b5, List.length_map, exL, smL, smV, exV, upd_app, RR, seval]; rfl))
          have hb2 := gb2; clear gb2
          have hb5 := gb5; clear gb5
          have hr0 := hn43x; clear hn43x hk43x
          simp only [hr0, hb2, hb5, nb2_r0, nr0_b2, nb5_r0, nr0_b5, nb5_b2, nb2_b5, List.length_map, exL, smL, smV, exV, RR, seval]
          refine awp_seq_k fun K hK => ?_
          refine awp_region rfl ?_
          simp only [hr0, hb2, hb5, nb2_r0, nr0_b2, nb5_r0, nr0_b5, nb5_b2, nb2_b5, List.length_map, exL, smL, smV, exV, RR, seval]
          refine hK _ _ ?_; clear hK K
          refine awp_ret ?_; simp only [bodyQ, aresult, ares, hr0, hb2, hb5, nb2_r0, nr0_b2, nb5_r0, nr0_b5, nb5_b2, nb2_b5, List.length_map, exL, smL, smV, exV, RR, seval]
          refine jgives (by first | exact hr0 | (simp only [hr0, hb2, hb5, nb2_r0, nr0_b2, nb5_r0, nr0_b5, nb5_b2, nb2_b5, List.length_map, exL, smL, smV, exV, upd_app, RR, seval]; done)) hres ?_ (by omega) (by omega)
          simp only [smV, Sm.kind, Sm.name, Sm.es, Sm.thn, Sm.els, List.map_cons, List.map_nil, Ex.row_eq]
          exact Sub.aggR (by repeat' (first | exact SubR.nil | exact SubRs.nil | exact Sub.refl _ | exact Sub.nsl _ | refine SubR.cons ?_ ?_ | refine SubRs.cons ?_ ?_ | refine Sub.isl ?_ | refine Sub.aggR ?_))
        · have hres := is_f hc14 hres
          rw [if_neg (Bool.eq_false_iff.1 hc14)] at hr0
          refine awp_skip ?_; try simp only [RR]
          refine awp_seq_k fun K hK => ?_
          refine awp_region rfl ?_
          simp only [hr0, hb2, hb5, nb2_r0, nr0_b2, nb5_r0, nr0_b5, nb5_b2, nb2_b5, List.length_map, exL, smL, smV, exV, RR, seval]
          refine hK _ _ ?_; clear hK K
          refine awp_ret ?_; simp only [bodyQ, aresult, ares, hr0, hb2, hb5, nb2_r0, nr0_b2, nb5_r0, nr0_b5, nb5_b2, nb2_b5, List.length_map, exL, smL, smV, exV, RR, seval]
          refine jgives (by first | exact hr0 | (simp only [hr0, hb2, hb5, nb2_r0, nr0_b2, nb5_r0, nr0_b5, nb5_b2, nb2_b5, List.length_map, exL, smL, smV, exV, upd_app, RR, seval]; done)) hres ?_ (by omega) (by omega)
          simp only [smV, Sm.kind, Sm.name, Sm.es, Sm.thn, Sm.els, List.map_cons, List.map_nil, Ex.row_eq]
          exact Sub.aggR (by repeat' (first | exact SubR.nil | exact SubRs.nil | exact Sub.refl _ | exact Sub.nsl _ | refine SubR.cons ?_ ?_ | refine SubRs.cons ?_ ?_ | refine Sub.isl ?_ | refine Sub.aggR ?_))
      · have hres := is_f hc11 hres
        rw [if_neg (Bool.eq_false_iff.1 hc11)] at hr0
        refine awp_seq_k fun K hK => ?_
        refine awp_region rfl ?_
        simp only [hr0, hb2, nb2_r0, nr0_b2, List.length_map, exL, smL, smV, exV, RR, seval]
        refine awpC_jo (is_con r0 hT n w hn wWhile (by decide)) (by first | exact hr0 | (simp only [hr0, hb2, nb2_r0, nr0_b2, List.length_map, exL, smL, smV, exV, upd_app, RR, seval]; done)) trivial fun M13 hn48x hk48x => ?_
        have gb2 := hk48x b2 _ (by first | exact nb2_r0 | exact blk_ne hb2 hr0 (by decide) | (intro e; subst e; simp_all)) (by first | exact hb2 | exact upd_same _ _ _ | (simp only [hr0, hb2, nb2_r0, nr0_b2, List.length_map, exL, smL, smV, exV, upd_app, RR, seval]; rfl))
        have hb2 := gb2; clear gb2
        have hr0 := hn48x; clear hn48x hk48x
        simp only [hr0, hb2, nb2_r0, nr0_b2, List.length_map, exL, smL, smV, exV, RR, seval]
        refine hK _ _ ?_; clear hK K
        refine awp_if _ rfl (fun hc17 => ?_) (fun hc17 => ?_)
        · have hres := is_t hc17 hres
          rw [if_pos hc17] at hr0
          have hlt17 := isB_lt hc17 (by first | assumption | decide)
          refine awp_seq_k fun K hK => ?_
          refine awp_region rfl ?_
          simp only [hr0, hb2, nb2_r0, nr0_b2, List.length_map, exL, smL, smV, exV, RR, seval]
          refine awpC_jd (jcond_con r0 hT (n + 1) w (by omega)) (by first | exact hr0 | (simp only [hr0, hb2, nb2_r0, nr0_b2, List.length_map, exL, smL, smV, exV, upd_app, RR, seval]; done)) trivial fun a50 m50 w50 M14 hj50 hle50 hlt50 hn50x hk50x => ?_
          have hres := stW_step hres hj50
          have gb2 := hk50x b2 _ (by first | exact nb2_r0 | exact blk_ne hb2 hr0 (by decide) | (intro e; subst e; simp_all)) (by first | exact hb2 | exact upd_same _ _ _ | (simp only [hr0, hb2, nb2_r0, nr0_b2, List.length_map, exL, smL, smV, exV, upd_app, RR, seval]; rfl))
          have hb2 := gb2; clear gb2
          have hr0 := hn50x; clear hn50x hk50x
          simp only [hr0, hb2, nb2_r0, nr0_b2, List.length_map, exL, smL, smV, exV, RR, seval]
          refine awpN_intro fun b6 hn6 => ?_
          have nb6_r0 : b6 ≠ r0 := fun e => by rw [e] at hn6; simp only [hr0, nb2_r0, nr0_b2, RR, seval, reduceCtorEq] at hn6
          have nr0_b6 : r0 ≠ b6 := fun e => nb6_r0 e.symm
          have nb6_b2 : b6 ≠ b2 := fun e => by rw [e] at hn6; simp only [hb2, nb2_r0, nr0_b2, RR, seval, reduceCtorEq] at hn6
          have nb2_b6 : b2 ≠ b6 := fun e => nb6_b2 e.symm
          simp only [hr0, hb2, nb2_r0, nr0_b2, nb6_r0, nr0_b6, nb6_b2, nb2_b6, List.length_map, exL, smL, smV, exV, RR, seval]
          refine hK _ _ ?_; clear hK K
          refine awp_seq_k fun K hK => ?_
          refine awp_region rfl ?_
          simp only [hr0, hb2, nb2_r0, nr0_b2, nb6_r0, nr0_b6, nb6_b2, nb2_b6, List.length_map, exL, smL, smV, exV, RR, seval]
          refine awpC_jd (ih m50 w50 (by omega) hlt50) (by first | exact hr0 | (simp only [hr0, hb2, nb2_r0, nr0_b2, nb6_r0, nr0_b6, nb6_b2, nb2_b6, List.length_map, exL, smL, smV, exV, upd_app, RR, seval]; done)) trivial fun a53 m53 w53 M15 hj53 hle53 hlt53 hn53x hk53x => ?_
          have hres := stW_step hres hj53
          have gb2 := hk53x b2 _ (by first | exact nb2_r0 | exact blk_ne hb2 hr0 (by decide) | (intro e; subst e; simp_all)) (by first | exact hb2 | exact upd_same _ _ _ | (simp only [hr0, hb2, nb2_r0, nr0_b2, nb6_r0, nr0_b6, nb6_b2, nb2_b6, List.length_map, exL, smL, smV, exV, upd_app, RR, seval]; rfl))
          have gb6 := hk53x b6 _ (by first | exact nb6_r0 | exact blk_ne hb6 hr0 (by decide) | (intro e; subst e; simp_all)) (by first | exact upd_same _ _ _ | (simp only [hr0, hb2, nb2_r0, nr0_b2, nb6_r0, nr0_b6, nb6_b2, nb2_b6, List.length_map, exL, smL, smV, exV, upd_app, RR, seval]; rfl))
          have hb2 := gb2; clear gb2
          have hb6 := gb6; clear gb6
          have hr0 := hn53x; clear hn53x hk53x
          simp only [hr0, hb2, hb6, nb2_r0, nr0_b2, nb6_r0, nr0_b6, nb6_b2, nb2_b6, List.length_map, exL, smL, smV, exV, RR, seval]
          refine hK _ _ ?_; clear hK K
          refine awp_seq_k fun K hK => ?_
          refine awp_region rfl ?_
          simp only [hr0, hb2, hb6, nb2_r0, nr0_b2, nb6_r0, nr0_b6, nb6_b2, nb2_b6, List.length_map, exL, smL, smV, exV, RR, seval]
          refine hK _ _ ?_; clear hK K
          refine awp_ret ?_; simp only [bodyQ, aresult, ares, hr0, hb2, hb6, nb2_r0, nr0_b2, nb6_r0, nr0_b6, nb6_b2, nb2_b6, List.length_map, exL, smL, smV, exV, RR, seval]
          refine jgives (by first | exact hr0 | (simp only [hr0, hb2, hb6, nb2_r0, nr0_b2, nb6_r0, nr0_b6, nb6_b2, nb2_b6, List.length_map, exL, smL, smV, exV, upd_app, RR, seval]; done)) hres ?_ (by omega) (by omega)
          simp only [smV, Sm.kind, Sm.name, Sm.es, Sm.thn, Sm.els, List.map_cons, List.map_nil, Ex.row_eq]
          exact Sub.aggR (by repeat' (first | exact SubR.nil | exact SubRs.nil | exact Sub.refl _ | exact Sub.nsl _ | refine SubR.cons ?_ ?_ | refine SubRs.cons ?_ ?_ | refine Sub.isl ?_ | refine Sub.aggR ?_))
        · have hres := is_f hc17 hres
          rw [if_neg (Bool.eq_false_iff.1 hc17)] at hr0
          refine awp_skip ?_; try simp only [RR]
          refine awp_seq_k fun K hK => ?_
          refine awp_region rfl ?_
          simp only [hr0, hb2, nb2_r0, nr0_b2, List.length_map, exL, smL, smV, exV, RR, seval]
          refine awpC_jd (token_con r0 hT n w hn 1 (by decide)) (by first | exact hr0 | (simp only [hr0, hb2, nb2_r0, nr0_b2, List.length_map, exL, smL, smV, exV, upd_app, RR, seval]; done)) trivial fun a57 m57 w57 M16 hj57 hle57 hlt57 hn57x hk57x => ?_
          have hres := stW_step hres hj57
          have gb2 := hk57x b2 _ (by first | exact nb2_r0 | exact blk_ne hb2 hr0 (by decide) | (intro e; subst e; simp_all)) (by first | exact hb2 | exact upd_same _ _ _ | (simp only [hr0, hb2, nb2_r0, nr0_b2, List.length_map, exL, smL, smV, exV, upd_app, RR, seval]; rfl))
          have hb2 := gb2; clear gb2
          have hr0 := hn57x; clear hn57x hk57x
          simp only [hr0, hb2, nb2_r0, nr0_b2, List.length_map, exL, smL, smV, exV, RR, seval]
          refine awpN_intro fun b7 hn7 => ?_
          have nb7_r0 : b7 ≠ r0 := fun e => by rw [e] at hn7; simp only [hr0, nb2_r0, nr0_b2, RR, seval, reduceCtorEq] at hn7
          have nr0_b7 : r0 ≠ b7 := fun e => nb7_r0 e.symm
          have nb7_b2 : b7 ≠ b2 := fun e => by rw [e] at hn7; simp only [hb2, nb2_r0, nr0_b2, RR, seval, reduceCtorEq] at hn7
          have nb2_b7 : b2 ≠ b7 := fun e => nb7_b2 e.symm
          simp only [hr0, hb2, nb2_r0, nr0_b2, nb7_r0, nr0_b7, nb7_b2, nb2_b7, List.length_map, exL, smL, smV, exV, RR, seval]
          refine hK _ _ ?_; clear hK K
          simp only [bind_ite, bind_assoc, PR.bind_ok] at hres
          refine awp_seq ?_
          refine awp_name fun F17 M17 hfr hH => ?_
          have g0 := hfr 0
          have g2 := hfr 2
          have g7 := hfr 7
          have gr0 := hH r0
          have gb2 := hH b2
          have gb7 := hH b7
          try simp only [hr0, hb2, nb2_r0, nr0_b2, nb7_r0, nr0_b7, nb7_b2, nb2_b7, List.length_map, exL, smL, smV, exV, RR, seval] at g0 g2 g7 gr0 gb2 gb7
          have f0 := g0; clear g0
          have f2 := g2; clear g2
          have f7 := g7; clear g7
          have hr0 := gr0; clear gr0
          have hb2 := gb2; clear gb2
          have hb7 := gb7; clear gb7
          clear hfr hH
          refine awp_cutP (fun fr M => agree [0, 2, 7] F17 fr ∧ M b2 = M17 b2 ∧ ∃ (x : Sm) (m : Nat) (w : Bool) (v3 : AV), n ≤ m ∧ m ≤ T.length ∧ stW w m ((mustI T [59] m).bind fun _ m => .ok x m) = res ∧ M b7 = some (.rows 5 [[.int .i64 x.kind, .str x.name, v3, .nsl, .nsl]]) ∧ LstV 5 v3 (x.es.map Ex.row) M ∧ x.thn = [] ∧ x.els = [] ∧ M r0 = some (.rows 3 [[.isl 4 (T.map Tok.row), .int .i64 (m : Nat), .bool w]]) ∧ (∀ s k, v3 ≠ .osl s b2 k) ∧ (∀ s k, v3 ≠ .osl s b7 k)) (fun KB1 hKB1 => ?_) ?_
          · have agB1 := agree.refl [0, 2, 7] F17
            have eB1_b2 : M17 b2 = M17 b2 := rfl
            refine awp_block ?_
            refine awp_seq_k fun K hK => ?_
            refine awp_region rfl ?_
            simp only [f0, hr0, hb2, hb7, nb2_r0, nr0_b2, nb7_r0, nr0_b7, nb7_b2, nb2_b7, List.length_map, exL, smL, smV, exV, RR, seval]
            refine awpC_jo (is_con r0 hT m57 w57 hlt57 [40] (by decide)) (by first | exact hr0 | (simp only [f0, f2, f7, hr0, hb2, hb7, nb2_r0, nr0_b2, nb7_r0, nr0_b7, nb7_b2, nb2_b7, List.length_map, exL, smL, smV, exV, upd_app, RR, seval]; done)) trivial fun M18 hn71x hk71x => ?_
            have gb2 := hk71x b2 _ (by first | exact nb2_r0 | exact blk_ne hb2 hr0 (by decide) | (intro e; subst e; simp_all)) (by first | exact hb2 | exact upd_same _ _ _ | (simp only [f0, f2, f7, hr0, hb2, hb7, nb2_r0, nr0_b2, nb7_r0, nr0_b7, nb7_b2, nb2_b7, List.length_map, exL, smL, smV, exV, upd_app, RR, seval]; rfl))
            have eB1_b2 := (gb2.trans hb2.symm).trans eB1_b2
            have gb7 := hk71x b7 _ (by first | exact nb7_r0 | exact blk_ne hb7 hr0 (by decide) | (intro e; subst e; simp_all)) (by first | exact hb7 | exact upd_same _ _ _ | (simp only [f0, f2, f7, hr0, hb2, hb7, nb2_r0, nr0_b2, nb7_r0, nr0_b7, nb7_b2, nb2_b7, List.length_map, exL, smL, smV, exV, upd_app, RR, seval]; rfl))
            have hb2 := gb2; clear gb2
            have hb7 := gb7; clear gb7
            have hr0 := hn71x; clear hn71x hk71x
            simp only [f0, hr0, hb2, hb7, nb2_r0, nr0_b2, nb7_r0, nr0_b7, nb7_b2, nb2_b7, List.length_map, exL, smL, smV, exV, RR, seval]
            refine hK _ _ ?_; clear hK K
            refine awp_if _ rfl (fun hc24 => ?_) (fun hc24 => ?_)
            · have hres := is_t hc24 hres
              rw [if_pos hc24] at hr0
              have hlt24 := isB_lt hc24 (by first | assumption | decide)
              refine awp_seq_k fun K hK => ?_
              refine awp_region rfl ?_
              simp only [f7, hr0, hb2, hb7, nb2_r0, nr0_b2, nb7_r0, nr0_b7, nb7_b2, nb2_b7, List.length_map, exL, smL, smV, exV, RR, seval]
              refine hK _ _ ?_; clear hK K
              refine awp_region rfl ?_
              simp only [f0, f7, hr0, hb2, hb7, nb2_r0, nr0_b2, nb7_r0, nr0_b7, nb7_b2, nb2_b7, List.length_map, exL, smL, smV, exV, RR, seval]
              refine awpC_jd (jargs_con r0 hT (m57 + 1) w57 (by omega)) (by first | exact hr0 | (simp only [f0, f2, f7, hr0, hb2, hb7, nb2_r0, nr0_b2, nb7_r0, nr0_b7, nb7_b2, nb2_b7, List.length_map, exL, smL, smV, exV, upd_app, RR, seval]; done)) trivial fun a74 m74 w74 M19 hj74 hle74 hlt74 hn74x hk74x => ?_
              have hres := stW_step hres hj74
              have gb2 := hk74x b2 _ (by first | exact nb2_r0 | exact blk_ne hb2 hr0 (by decide) | (intro e; subst e; simp_all)) (by first | exact hb2 | exact upd_same _ _ _ | (simp only [f0, f2, f7, hr0, hb2, hb7, nb2_r0, nr0_b2, nb7_r0, nr0_b7, nb7_b2, nb2_b7, List.length_map, exL, smL, smV, exV, upd_app, RR, seval]; rfl))
              have eB1_b2 := (gb2.trans hb2.symm).trans eB1_b2
              have gb7 := hk74x b7 _ (by first | exact nb7_r0 | exact blk_ne hb7 hr0 (by decide) | (intro e; subst e; simp_all)) (by first | exact hb7 | exact upd_same _ _ _ | (simp only [f0, f2, f7, hr0, hb2, hb7, nb2_r0, nr0_b2, nb7_r0, nr0_b7, nb7_b2, nb2_b7, List.length_map, exL, smL, smV, exV, upd_app, RR, seval]; rfl))
              have hb2 := gb2; clear gb2
              have hb7 := gb7; clear gb7
              have hr0 := hn74x; clear hn74x hk74x
              simp only [f0, f7, hr0, hb2, hb7, nb2_r0, nr0_b2, nb7_r0, nr0_b7, nb7_b2, nb2_b7, List.length_map, exL, smL, smV, exV, RR, seval]
              refine hKB1 _ _ ⟨(by repeat (first | exact agB1 | refine agree.upd rfl ?_)), (by first | exact eB1_b2 | (simp only [nb2_r0, nr0_b2, nb7_r0, nr0_b7, nb7_b2, nb2_b7, upd_app, seval]; first | done | exact eB1_b2)), ?_⟩
              first | (have hq := a74; exact ⟨.mk 6 a57.text a74 [] [], m74, w74, _, by omega, hlt74, hres, by first | exact upd_same _ _ _ | (simp only [f0, f2, f7, hr0, hb2, hb7, nb2_r0, nr0_b2, nb7_r0, nr0_b7, nb7_b2, nb2_b7, List.length_map, exL, smL, smV, exV, upd_app, RR, seval]; rfl), .inr rfl, rfl, rfl, by first | exact hr0 | (simp only [f0, f2, f7, hr0, hb2, hb7, nb2_r0, nr0_b2, nb7_r0, nr0_b7, nb7_b2, nb2_b7, List.length_map, exL, smL, smV, exV, upd_app, RR, seval]; done), (fun _ _ h => by cases h), (fun _ _ h => by cases h)⟩) | (have hq := a94; exact ⟨.mk 2 a57.text [a83, a94] [] [], m94, w94, _, by omega, hlt94, hres, by first | exact upd_same _ _ _ | (simp only [f0, f2, f7, hr0, hb2, hb7, nb2_r0, nr0_b2, nb7_r0, nr0_b7, nb7_b2, nb2_b7, List.length_map, exL, smL, smV, exV, upd_app, RR, seval]; rfl), .inl (by simp only [Sm.es, List.map_cons, List.map_nil, Ex.row_eq]; exact hownb'.off ho7' _), rfl, rfl, by first | exact hr0 | (simp only [f0, f2, f7, hr0, hb2, hb7, nb2_r0, nr0_b2, nb7_r0, nr0_b7, nb7_b2, nb2_b7, List.length_map, exL, smL, smV, exV, upd_app, RR, seval]; done), ho2', ho7'⟩) | (have hq := a65; exact ⟨.mk 1 a57.text [a65] [] [], m65, w65, _, by omega, hlt65, hres, by first | exact upd_same _ _ _ | (simp only [f0, f2, f7, hr0, hb2, hb7, nb2_r0, nr0_b2, nb7_r0, nr0_b7, nb7_b2, nb2_b7, List.length_map, exL, smL, smV, exV, upd_app, RR, seval]; rfl), .inl (by simp only [Sm.es, List.map_cons, List.map_nil, Ex.row_eq]; exact hownc'.off ho7' _), rfl, rfl, by first | exact hr0 | (simp only [f0, f2, f7, hr0, hb2, hb7, nb2_r0, nr0_b2, nb7_r0, nr0_b7, nb7_b2, nb2_b7, List.length_map, exL, smL, smV, exV, upd_app, RR, seval]; done), ho2', ho7'⟩)
            · have hres := is_f hc24 hres
              rw [if_neg (Bool.eq_false_iff.1 hc24)] at hr0
              refine awp_seq_k fun K hK => ?_
              refine awp_region rfl ?_
              simp only [f0, hr0, hb2, hb7, nb2_r0, nr0_b2, nb7_r0, nr0_b7, nb7_b2, nb2_b7, List.length_map, exL, smL, smV, exV, RR, seval]
              refine awpC_jo (is_con r0 hT m57 w57 hlt57 [91] (by decide)) (by first | exact hr0 | (simp only [f0, f2, f7, hr0, hb2, hb7, nb2_r0, nr0_b2, nb7_r0, nr0_b7, nb7_b2, nb2_b7, List.length_map, exL, smL, smV, exV, upd_app, RR, seval]; done)) trivial fun M20 hn78x hk78x => ?_
              have gb2 := hk78x b2 _ (by first | exact nb2_r0 | exact blk_ne hb2 hr0 (by decide) | (intro e; subst e; simp_all)) (by first | exact hb2 | exact upd_same _ _ _ | (simp only [f0, f2, f7, hr0, hb2, hb7, nb2_r0, nr0_b2, nb7_r0, nr0_b7, nb7_b2, nb2_b7, List.length_map, exL, smL, smV, exV, upd_app, RR, seval]; rfl))
              have eB1_b2 := (gb2.trans hb2.symm).trans eB1_b2
              have gb7 := hk78x b7 _ (by first | exact nb7_r0 | exact blk_ne hb7 hr0 (by decide) | (intro e; subst e; simp_all)) (by first | exact hb7 | exact upd_same _ _ _ | (simp only [f0, f2, f7, hr0, hb2, hb7, nb2_r0, nr0_b2, nb7_r0, nr0_b7, nb7_b2, nb2_b7, List.length_map, exL, smL, smV, exV, upd_app, RR, seval]; rfl))
              have hb2 := gb2; clear gb2
              have hb7 := gb7; clear gb7
              have hr0 := hn78x; clear hn78x hk78x
              simp only [f0, hr0, hb2, hb7, nb2_r0, nr0_b2, nb7_r0, nr0_b7, nb7_b2, nb2_b7, List.length_map, exL, smL, smV, exV, RR, seval]
              refine hK _ _ ?_; clear hK K
              refine awp_if _ rfl (fun hc27 => ?_) (fun hc27 => ?_)
              · have hres := is_t hc27 hres
                rw [if_pos hc27] at hr0
                have hlt27 := isB_lt hc27 (by first | assumption | decide)
                refine awp_seq_k fun K hK => ?_
                refine awp_region rfl ?_
                simp only [f7, hr0, hb2, hb7, nb2_r0, nr0_b2, nb7_r0, nr0_b7, nb7_b2, nb2_b7, List.length_map, exL, smL, smV, exV, RR, seval]
                refine hK _ _ ?_; clear hK K
                refine awp_name fun F21 M21 hfr hH => ?_
                have g0 := hfr 0
                have g2 := hfr 2
                have g7 := hfr 7
                have gr0 := hH r0
                have gb2 := hH b2
                have gb7 := hH b7
                try simp only [f0, f2, f7, hr0, hb2, hb7, nb2_r0, nr0_b2, nb7_r0, nr0_b7, nb7_b2, nb2_b7, List.length_map, exL, smL, smV, exV, RR, seval] at g0 g2 g7 gr0 gb2 gb7
                have agB1 : agree [0, 2, 7] F17 F21 := agree.same hfr (by repeat (first | exact agB1 | refine agree.upd rfl ?_))
                have eB1_b2 := (hH b2).trans (by first | exact eB1_b2 | (simp only [nb2_r0, nr0_b2, nb7_r0, nr0_b7, nb7_b2, nb2_b7, upd_app, seval]; first | done | exact eB1_b2))
                have f0 := g0; clear g0
                have f2 := g2; clear g2
                have f7 := g7; clear g7
                have hr0 := gr0; clear gr0
                have hb2 := gb2; clear gb2
                have hb7 := gb7; clear gb7
                clear hfr hH
                have ho2 : Al.off AV.nsl b2 := fun _ _ h => by cases h
                have ho7 : Al.off AV.nsl b7 := fun _ _ h => by cases h
                refine awp_seq_k fun K hK => ?_
                refine awp_region_draw2 (fun x => x ≠ b2 ∧ x ≠ b7) [(0, 3), (1, 0), (2, 3), (3, 1), (4, 2), (5, 1), (6, 3)] [(7, 1)] draws (by kernel_rfl) rfl rfl ?_
                simp only [emitF, markOf, EM, f0, f7, hr0, hb2, hb7, nb2_r0, nr0_b2, nb7_r0, nr0_b7, nb7_b2, nb2_b7, List.length_map, exL, smL, smV, exV, RR, seval]
                refine awpC_jd (jexpr_con r0 hT (m57 + 1) w57 (by omega)) (by first | exact hr0 | (simp only [f0, f2, f7, hr0, hb2, hb7, nb2_r0, nr0_b2, nb7_r0, nr0_b7, nb7_b2, nb2_b7, List.length_map, exL, smL, smV, exV, upd_app, RR, seval]; done)) (by first | trivial | (repeat' apply And.intro) <;> assumption) fun a83 m83 w83 M22 hj83 hle83 hlt83 hn83x hk83x => ?_
                have hres := stW_step hres hj83
                have gb2 := hk83x b2 _ (by first | exact nb2_r0 | exact blk_ne hb2 hr0 (by decide) | (intro e; subst e; simp_all)) (by first | exact hb2 | exact upd_same _ _ _ | (simp only [f0, f2, f7, hr0, hb2, hb7, nb2_r0, nr0_b2, nb7_r0, nr0_b7, nb7_b2, nb2_b7, List.length_map, exL, smL, smV, exV, upd_app, RR, seval]; rfl))
                have eB1_b2 := (gb2.trans hb2.symm).trans eB1_b2
                have gb7 := hk83x b7 _ (by first | exact nb7_r0 | exact blk_ne hb7 hr0 (by decide) | (intro e; subst e; simp_all)) (by first | exact hb7 | exact upd_same _ _ _ | (simp only [f0, f2, f7, hr0, hb2, hb7, nb2_r0, nr0_b2, nb7_r0, nr0_b7, nb7_b2, nb2_b7, List.length_map, exL, smL, smV, exV, upd_app, RR, seval]; rfl))
                have hb2 := gb2; clear gb2
                have hb7 := gb7; clear gb7
                have hr0 := hn83x; clear hn83x hk83x
                simp only [emitF, markOf, EM, f0, f7, hr0, hb2, hb7, nb2_r0, nr0_b2, nb7_r0, nr0_b7, nb7_b2, nb2_b7, List.length_map, exL, smL, smV, exV, RR, seval]
                refine awpA_ownF (OwnL.nil 5 _) (by simp only [List.length_map, List.length_cons, List.length_nil]; omega) (fun b e => by first | trivial | (repeat' apply And.intro) <;> (intro c; subst c; first | exact ho2 _ _ e | exact ho7 _ _ e | exact (OwnL.nil 5 _).nb' hr0 (by decide) e)) fun v29 M23 hown' hk' hg' => ?_
                have ho2' := hg' b2 ho2 (by rw [hb2]; exact Option.some_ne_none _)
                have ho7' := hg' b7 ho7 (by rw [hb7]; exact Option.some_ne_none _)
                simp only [emitF, markOf, EM, f0, f7, hr0, hb2, hb7, nb2_r0, nr0_b2, nb7_r0, nr0_b7, nb7_b2, nb2_b7, List.length_map, exL, smL, smV, exV, RR, seval]
                have gr0 := hk' r0 _ hr0 (by first | exact ((OwnL.nil 5 _)).nb' hr0 (by decide) | exact ho0 _ _ | assumption | (intro e; simp_all))
                have hr0 := gr0; clear gr0
                have gb2 := hk' b2 _ hb2 (by first | exact ((OwnL.nil 5 _)).nb' hb2 (by decide) | exact ho2 _ _ | assumption | (intro e; simp_all))
                have eB1_b2 := (gb2.trans hb2.symm).trans eB1_b2
                have hb2 := gb2; clear gb2
                have gb7 := hk' b7 _ hb7 (by first | exact ((OwnL.nil 5 _)).nb' hb7 (by decide) | exact ho7 _ _ | assumption | (intro e; simp_all))
                have hb7 := gb7; clear gb7
                have hce := hown'.cells; have hoe := hown'.one1
                try simp only [emitF, markOf, EM, hce, hoe, Option.bind_some, List.drop, f0, f7, hr0, hb2, hb7, nb2_r0, nr0_b2, nb7_r0, nr0_b7, nb7_b2, nb2_b7, List.length_map, exL, smL, smV, exV, RR, seval]
                refine hK _ _ ?_; clear hK K
                refine awp_name fun F24 M24 hfr hH => ?_
                have g0 := hfr 0
                have g2 := hfr 2
                have g7 := hfr 7
                have gr0 := hH r0
                have gb2 := hH b2
                have gb7 := hH b7
                try simp only [f0, f2, f7, hr0, hb2, hb7, nb2_r0, nr0_b2, nb7_r0, nr0_b7, nb7_b2, nb2_b7, List.length_map, exL, smL, smV, exV, RR, seval] at g0 g2 g7 gr0 gb2 gb7
                have agB1 : agree [0, 2, 7] F17 F24 := agree.same hfr (by repeat (first | exact agB1 | refine agree.upd rfl ?_))
                have eB1_b2 := (hH b2).trans (by first | exact eB1_b2 | (simp only [nb2_r0, nr0_b2, nb7_r0, nr0_b7, nb7_b2, nb2_b7, upd_app, seval]; first | done | exact eB1_b2))
                have hown' := (hown'.off ho7' _).same hH
                have hone := hown'.one1
                have hcls := hown'.cells
                have f0 := g0; clear g0
                have f2 := g2; clear g2
                have f7 := g7; clear g7
                have hr0 := gr0; clear gr0
                have hb2 := gb2; clear gb2
                have hb7 := gb7; clear gb7
                clear hfr hH
                refine awp_seq_k fun K hK => ?_
                refine awp_region rfl ?_
                simp only [f0, hr0, hb2, hb7, nb2_r0, nr0_b2, nb7_r0, nr0_b7, nb7_b2, nb2_b7, List.length_map, exL, smL, smV, exV, hone, hcls, RR, seval]
                refine awpC_jd (jmust_con r0 hT m83 w83 hlt83 [93] (by decide)) (by first | exact hr0 | (simp only [f0, f2, f7, hr0, hb2, hb7, nb2_r0, nr0_b2, nb7_r0, nr0_b7, nb7_b2, nb2_b7, List.length_map, exL, smL, smV, exV, hone, hcls, upd_app, RR, seval]; done)) trivial fun a88 m88 w88 M25 hj88 hle88 hlt88 hn88x hk88x => ?_
                have hres := stW_step hres hj88
                have gb2 := hk88x b2 _ (by first | exact nb2_r0 | exact blk_ne hb2 hr0 (by decide) | (intro e; subst e; simp_all)) (by first | exact hb2 | exact upd_same _ _ _ | (simp only [f0, f2, f7, hr0, hb2, hb7, nb2_r0, nr0_b2, nb7_r0, nr0_b7, nb7_b2, nb2_b7, List.length_map, exL, smL, smV, exV, hone, hcls, upd_app, RR, seval]; rfl))
                have eB1_b2 := (gb2.trans hb2.symm).trans eB1_b2
                have gb7 := hk88x b7 _ (by first | exact nb7_r0 | exact blk_ne hb7 hr0 (by decide) | (intro e; subst e; simp_all)) (by first | exact hb7 | exact upd_same _ _ _ | (simp only [f0, f2, f7, hr0, hb2, hb7, nb2_r0, nr0_b2, nb7_r0, nr0_b7, nb7_b2, nb2_b7, List.length_map, exL, smL, smV, exV, hone, hcls, upd_app, RR, seval]; rfl))
                have hb2 := gb2; clear gb2
                have hb7 := gb7; clear gb7
                have hown' := OwnL.kp hown' hr0 (by decide) hk88x
                have hr0 := hn88x; clear hn88x hk88x
                simp only [f0, hr0, hb2, hb7, nb2_r0, nr0_b2, nb7_r0, nr0_b7, nb7_b2, nb2_b7, List.length_map, exL, smL, smV, exV, hone, hcls, RR, seval]
                refine hK _ _ ?_; clear hK K
                refine awp_seq_k fun K hK => ?_
                refine awp_region rfl ?_
                simp only [f0, hr0, hb2, hb7, nb2_r0, nr0_b2, nb7_r0, nr0_b7, nb7_b2, nb2_b7, List.length_map, exL, smL, smV, exV, hone, hcls, RR, seval]
                refine awpC_jd (jmust_con r0 hT m88 w88 hlt88 [61] (by decide)) (by first | exact hr0 | (simp only [f0, f2, f7, hr0, hb2, hb7, nb2_r0, nr0_b2, nb7_r0, nr0_b7, nb7_b2, nb2_b7, List.length_map, exL, smL, smV, exV, hone, hcls, upd_app, RR, seval]; done)) trivial fun a90 m90 w90 M26 hj90 hle90 hlt90 hn90x hk90x => ?_
                have hres := stW_step hres hj90
                have gb2 := hk90x b2 _ (by first | exact nb2_r0 | exact blk_ne hb2 hr0 (by decide) | (intro e; subst e; simp_all)) (by first | exact hb2 | exact upd_same _ _ _ | (simp only [f0, f2, f7, hr0, hb2, hb7, nb2_r0, nr0_b2, nb7_r0, nr0_b7, nb7_b2, nb2_b7, List.length_map, exL, smL, smV, exV, hone, hcls, upd_app, RR, seval]; rfl))
                have eB1_b2 := (gb2.trans hb2.symm).trans eB1_b2
                have gb7 := hk90x b7 _ (by first | exact nb7_r0 | exact blk_ne hb7 hr0 (by decide) | (intro e; subst e; simp_all)) (by first | exact hb7 | exact upd_same _ _ _ | (simp only [f0, f2, f7, hr0, hb2, hb7, nb2_r0, nr0_b2, nb7_r0, nr0_b7, nb7_b2, nb2_b7, List.length_map, exL, smL, smV, exV, hone, hcls, upd_app, RR, seval]; rfl))
                have hb2 := gb2; clear gb2
                have hb7 := gb7; clear gb7
                have hown' := OwnL.kp hown' hr0 (by decide) hk90x
                have hr0 := hn90x; clear hn90x hk90x
                simp only [f0, hr0, hb2, hb7, nb2_r0, nr0_b2, nb7_r0, nr0_b7, nb7_b2, nb2_b7, List.length_map, exL, smL, smV, exV, hone, hcls, RR, seval]
                refine hK _ _ ?_; clear hK K
                refine awp_name fun F27 M27 hfr hH => ?_
                have g0 := hfr 0
                have g2 := hfr 2
                have g7 := hfr 7
                have gr0 := hH r0
                have gb2 := hH b2
                have gb7 := hH b7
                try simp only [f0, f2, f7, hr0, hb2, hb7, nb2_r0, nr0_b2, nb7_r0, nr0_b7, nb7_b2, nb2_b7, List.length_map, exL, smL, smV, exV, hone, hcls, RR, seval] at g0 g2 g7 gr0 gb2 gb7
                have agB1 : agree [0, 2, 7] F17 F27 := agree.same hfr (by repeat (first | exact agB1 | refine agree.upd rfl ?_))
                have eB1_b2 := (hH b2).trans (by first | exact eB1_b2 | (simp only [nb2_r0, nr0_b2, nb7_r0, nr0_b7, nb7_b2, nb2_b7, upd_app, seval]; first | done | exact eB1_b2))
                have hown' := hown'.same hH
                have ho2 := ho2'
                have ho7 := ho7'
                have f0 := g0; clear g0
                have f2 := g2; clear g2
                have f7 := g7; clear g7
                have hr0 := gr0; clear gr0
                have hb2 := gb2; clear gb2
                have hb7 := gb7; clear gb7
                clear hfr hH
                refine awp_region_draw2 (fun x => x ≠ b2 ∧ x ≠ b7) [(0, 3), (1, 0), (2, 3), (3, 1), (4, 2), (5, 1), (6, 3)] [(7, 1)] draws (by kernel_rfl) rfl rfl ?_
                simp only [emitF, markOf, EM, f0, f7, hr0, hb2, hb7, nb2_r0, nr0_b2, nb7_r0, nr0_b7, nb7_b2, nb2_b7, List.length_map, exL, smL, smV, exV, hone, hcls, RR, seval]
                refine awpC_jd (jexpr_con r0 hT m90 w90 hlt90) (by first | exact hr0 | (simp only [f0, f2, f7, hr0, hb2, hb7, nb2_r0, nr0_b2, nb7_r0, nr0_b7, nb7_b2, nb2_b7, List.length_map, exL, smL, smV, exV, hone, hcls, upd_app, RR, seval]; done)) (by first | trivial | (repeat' apply And.intro) <;> assumption) fun a94 m94 w94 M28 hj94 hle94 hlt94 hn94x hk94x => ?_
                have hres := stW_step hres hj94
                have gb2 := hk94x b2 _ (by first | exact nb2_r0 | exact blk_ne hb2 hr0 (by decide) | (intro e; subst e; simp_all)) (by first | exact hb2 | exact upd_same _ _ _ | (simp only [f0, f2, f7, hr0, hb2, hb7, nb2_r0, nr0_b2, nb7_r0, nr0_b7, nb7_b2, nb2_b7, List.length_map, exL, smL, smV, exV, hone, hcls, upd_app, RR, seval]; rfl))
                have eB1_b2 := (gb2.trans hb2.symm).trans eB1_b2
                have gb7 := hk94x b7 _ (by first | exact nb7_r0 | exact blk_ne hb7 hr0 (by decide) | (intro e; subst e; simp_all)) (by first | exact hb7 | exact upd_same _ _ _ | (simp only [f0, f2, f7, hr0, hb2, hb7, nb2_r0, nr0_b2, nb7_r0, nr0_b7, nb7_b2, nb2_b7, List.length_map, exL, smL, smV, exV, hone, hcls, upd_app, RR, seval]; rfl))
                have hb2 := gb2; clear gb2
                have hb7 := gb7; clear gb7
                have hown' := OwnL.kp hown' hr0 (by decide) hk94x
                have hr0 := hn94x; clear hn94x hk94x
                simp only [emitF, markOf, EM, f0, f7, hr0, hb2, hb7, nb2_r0, nr0_b2, nb7_r0, nr0_b7, nb7_b2, nb2_b7, List.length_map, exL, smL, smV, exV, hone, hcls, RR, seval]
                refine awpA_ownF hown' (by simp only [List.length_map, List.length_cons, List.length_nil]; (try simp only [List.nil_append, List.length_append, List.length_cons, List.length_nil]); omega) (fun b e => by first | trivial | (repeat' apply And.intro) <;> (intro c; subst c; first | exact ho2 _ _ e | exact ho7 _ _ e | exact hown'.nb' hr0 (by decide) e)) fun v32 M29 hownb' hk' hg' => ?_
                have ho2' := hg' b2 ho2 (by rw [hb2]; exact Option.some_ne_none _)
                have ho7' := hg' b7 ho7 (by rw [hb7]; exact Option.some_ne_none _)
                simp only [emitF, markOf, EM, f0, f7, hr0, hb2, hb7, nb2_r0, nr0_b2, nb7_r0, nr0_b7, nb7_b2, nb2_b7, List.length_map, exL, smL, smV, exV, hone, hcls, RR, seval]
                have gr0 := hk' r0 _ hr0 (by first | exact (hown').nb' hr0 (by decide) | exact ho0 _ _ | assumption | (intro e; simp_all))
                have hr0 := gr0; clear gr0
                have gb2 := hk' b2 _ hb2 (by first | exact (hown').nb' hb2 (by decide) | exact ho2 _ _ | assumption | (intro e; simp_all))
                have eB1_b2 := (gb2.trans hb2.symm).trans eB1_b2
                have hb2 := gb2; clear gb2
                have gb7 := hk' b7 _ hb7 (by first | exact (hown').nb' hb7 (by decide) | exact ho7 _ _ | assumption | (intro e; simp_all))
                have hb7 := gb7; clear gb7
                have hce := hownb'.cells; have hoe := hownb'.one1
                try simp only [emitF, markOf, EM, hce, hoe, Option.bind_some, List.drop, f0, f7, hr0, hb2, hb7, nb2_r0, nr0_b2, nb7_r0, nr0_b7, nb7_b2, nb2_b7, List.length_map, exL, smL, smV, exV, hone, hcls, RR, seval]
                refine hKB1 _ _ ⟨(by repeat (first | exact agB1 | refine agree.upd rfl ?_)), (by first | exact eB1_b2 | (simp only [nb2_r0, nr0_b2, nb7_r0, nr0_b7, nb7_b2, nb2_b7, upd_app, seval]; first | done | exact eB1_b2)), ?_⟩
                first | (have hq := a74; exact ⟨.mk 6 a57.text a74 [] [], m74, w74, _, by omega, hlt74, hres, by first | exact upd_same _ _ _ | (simp only [f0, f2, f7, hr0, hb2, hb7, nb2_r0, nr0_b2, nb7_r0, nr0_b7, nb7_b2, nb2_b7, List.length_map, exL, smL, smV, exV, hone, hcls, upd_app, RR, seval]; rfl), .inr rfl, rfl, rfl, by first | exact hr0 | (simp only [f0, f2, f7, hr0, hb2, hb7, nb2_r0, nr0_b2, nb7_r0, nr0_b7, nb7_b2, nb2_b7, List.length_map, exL, smL, smV, exV, hone, hcls, upd_app, RR, seval]; done), (fun _ _ h => by cases h), (fun _ _ h => by cases h)⟩) | (have hq := a94; exact ⟨.mk 2 a57.text [a83, a94] [] [], m94, w94, _, by omega, hlt94, hres, by first | exact upd_same _ _ _ | (simp only [f0, f2, f7, hr0, hb2, hb7, nb2_r0, nr0_b2, nb7_r0, nr0_b7, nb7_b2, nb2_b7, List.length_map, exL, smL, smV, exV, hone, hcls, upd_app, RR, seval]; rfl), .inl (by simp only [Sm.es, List.map_cons, List.map_nil, Ex.row_eq]; exact hownb'.off ho7' _), rfl, rfl, by first | exact hr0 | (simp only [f0, f2, f7, hr0, hb2, hb7, nb2_r0, nr0_b2, nb7_r0, nr0_b7, nb7_b2, nb2_b7, List.length_map, exL, smL, smV, exV, hone, hcls, upd_app, RR, seval]; done), ho2', ho7'⟩) | (have hq := a65; exact ⟨.mk 1 a57.text [a65] [] [], m65, w65, _, by omega, hlt65, hres, by first | exact upd_same _ _ _ | (simp only [f0, f2, f7, hr0, hb2, hb7, nb2_r0, nr0_b2, nb7_r0, nr0_b7, nb7_b2, nb2_b7, List.length_map, exL, smL, smV, exV, hone, hcls, upd_app, RR, seval]; rfl), .inl (by simp only [Sm.es, List.map_cons, List.map_nil, Ex.row_eq]; exact hownc'.off ho7' _), rfl, rfl, by first | exact hr0 | (simp only [f0, f2, f7, hr0, hb2, hb7, nb2_r0, nr0_b2, nb7_r0, nr0_b7, nb7_b2, nb2_b7, List.length_map, exL, smL, smV, exV, hone, hcls, upd_app, RR, seval]; done), ho2', ho7'⟩)
              · have hres := is_f hc27 hres
                rw [if_neg (Bool.eq_false_iff.1 hc27)] at hr0
                refine awp_seq_k fun K hK => ?_
                refine awp_region rfl ?_
                simp only [f0, hr0, hb2, hb7, nb2_r0, nr0_b2, nb7_r0, nr0_b7, nb7_b2, nb2_b7, List.length_map, exL, smL, smV, exV, RR, seval]
                refine awpC_jd (jmust_con r0 hT m57 w57 hlt57 [61] (by decide)) (by first | exact hr0 | (simp only [f0, f2, f7, hr0, hb2, hb7, nb2_r0, nr0_b2, nb7_r0, nr0_b7, nb7_b2, nb2_b7, List.length_map, exL, smL, smV, exV, upd_app, RR, seval]; done)) trivial fun a61 m61 w61 M30 hj61 hle61 hlt61 hn61x hk61x => ?_
                have hres := stW_step hres hj61
                have gb2 := hk61x b2 _ (by first | exact nb2_r0 | exact blk_ne hb2 hr0 (by decide) | (intro e; subst e; simp_all)) (by first | exact hb2 | exact upd_same _ _ _ | (simp only [f0, f2, f7, hr0, hb2, hb7, nb2_r0, nr0_b2, nb7_r0, nr0_b7, nb7_b2, nb2_b7, List.length_map, exL, smL, smV, exV, upd_app, RR, seval]; rfl))
                have eB1_b2 := (gb2.trans hb2.symm).trans eB1_b2
                have gb7 := hk61x b7 _ (by first | exact nb7_r0 | exact blk_ne hb7 hr0 (by decide) | (intro e; subst e; simp_all)) (by first | exact hb7 | exact upd_same _ _ _ | (simp only [f0, f2, f7, hr0, hb2, hb7, nb2_r0, nr0_b2, nb7_r0, nr0_b7, nb7_b2, nb2_b7, List.length_map, exL, smL, smV, exV, upd_app, RR, seval]; rfl))
                have hb2 := gb2; clear gb2
                have hb7 := gb7; clear gb7
                have hr0 := hn61x; clear hn61x hk61x
                simp only [f0, hr0, hb2, hb7, nb2_r0, nr0_b2, nb7_r0, nr0_b7, nb7_b2, nb2_b7, List.length_map, exL, smL, smV, exV, RR, seval]
                refine hK _ _ ?_; clear hK K
                refine awp_name fun F31 M31 hfr hH => ?_
                have g0 := hfr 0
                have g2 := hfr 2
                have g7 := hfr 7
                have gr0 := hH r0
                have gb2 := hH b2
                have gb7 := hH b7
                try simp only [f0, f2, f7, hr0, hb2, hb7, nb2_r0, nr0_b2, nb7_r0, nr0_b7, nb7_b2, nb2_b7, List.length_map, exL, smL, smV, exV, RR, seval] at g0 g2 g7 gr0 gb2 gb7
                have agB1 : agree [0, 2, 7] F17 F31 := agree.same hfr (by repeat (first | exact agB1 | refine agree.upd rfl ?_))
                have eB1_b2 := (hH b2).trans (by first | exact eB1_b2 | (simp only [nb2_r0, nr0_b2, nb7_r0, nr0_b7, nb7_b2, nb2_b7, upd_app, seval]; first | done | exact eB1_b2))
                have f0 := g0; clear g0
                have f2 := g2; clear g2
                have f7 := g7; clear g7
                have hr0 := gr0; clear gr0
                have hb2 := gb2; clear gb2
                have hb7 := gb7; clear gb7
                clear hfr hH
                have ho2 : Al.off AV.nsl b2 := fun _ _ h => by cases h
                have ho7 : Al.off AV.nsl b7 := fun _ _ h => by cases h
                refine awp_region_draw2 (fun x => x ≠ b2 ∧ x ≠ b7) [(0, 3), (1, 0), (2, 3), (3, 1), (4, 2), (5, 1), (6, 3)] [(7, 1)] draws (by kernel_rfl) rfl rfl ?_
                simp only [emitF, markOf, EM, f0, f7, hr0, hb2, hb7, nb2_r0, nr0_b2, nb7_r0, nr0_b7, nb7_b2, nb2_b7, List.length_map, exL, smL, smV, exV, RR, seval]
                refine awpC_jd (jexpr_con r0 hT m61 w61 hlt61) (by first | exact hr0 | (simp only [f0, f2, f7, hr0, hb2, hb7, nb2_r0, nr0_b2, nb7_r0, nr0_b7, nb7_b2, nb2_b7, List.length_map, exL, smL, smV, exV, upd_app, RR, seval]; done)) (by first | trivial | (repeat' apply And.intro) <;> assumption) fun a65 m65 w65 M32 hj65 hle65 hlt65 hn65x hk65x => ?_
                have hres := stW_step hres hj65
                have gb2 := hk65x b2 _ (by first | exact nb2_r0 | exact blk_ne hb2 hr0 (by decide) | (intro e; subst e; simp_all)) (by first | exact hb2 | exact upd_same _ _ _ | (simp only [f0, f2, f7, hr0, hb2, hb7, nb2_r0, nr0_b2, nb7_r0, nr0_b7, nb7_b2, nb2_b7, List.length_map, exL, smL, smV, exV, upd_app, RR, seval]; rfl))
                have eB1_b2 := (gb2.trans hb2.symm).trans eB1_b2
                have gb7 := hk65x b7 _ (by first | exact nb7_r0 | exact blk_ne hb7 hr0 (by decide) | (intro e; subst e; simp_all)) (by first | exact hb7 | exact upd_same _ _ _ | (simp only [f0, f2, f7, hr0, hb2, hb7, nb2_r0, nr0_b2, nb7_r0, nr0_b7, nb7_b2, nb2_b7, List.length_map, exL, smL, smV, exV, upd_app, RR, seval]; rfl))
                have hb2 := gb2; clear gb2
                have hb7 := gb7; clear gb7
                have hr0 := hn65x; clear hn65x hk65x
                simp only [emitF, markOf, EM, f0, f7, hr0, hb2, hb7, nb2_r0, nr0_b2, nb7_r0, nr0_b7, nb7_b2, nb2_b7, List.length_map, exL, smL, smV, exV, RR, seval]
                refine awpA_ownF (OwnL.nil 5 _) (by simp only [List.length_map, List.length_cons, List.length_nil]; omega) (fun b e => by first | trivial | (repeat' apply And.intro) <;> (intro c; subst c; first | exact ho2 _ _ e | exact ho7 _ _ e | exact (OwnL.nil 5 _).nb' hr0 (by decide) e)) fun v23 M33 hownc' hk' hg' => ?_
                have ho2' := hg' b2 ho2 (by rw [hb2]; exact Option.some_ne_none _)
                have ho7' := hg' b7 ho7 (by rw [hb7]; exact Option.some_ne_none _)
                simp only [emitF, markOf, EM, f0, f7, hr0, hb2, hb7, nb2_r0, nr0_b2, nb7_r0, nr0_b7, nb7_b2, nb2_b7, List.length_map, exL, smL, smV, exV, RR, seval]
                have gr0 := hk' r0 _ hr0 (by first | exact ((OwnL.nil 5 _)).nb' hr0 (by decide) | exact ho0 _ _ | assumption | (intro e; simp_all))
                have hr0 := gr0; clear gr0
                have gb2 := hk' b2 _ hb2 (by first | exact ((OwnL.nil 5 _)).nb' hb2 (by decide) | exact ho2 _ _ | assumption | (intro e; simp_all))
                have eB1_b2 := (gb2.trans hb2.symm).trans eB1_b2
                have hb2 := gb2; clear gb2
                have gb7 := hk' b7 _ hb7 (by first | exact ((OwnL.nil 5 _)).nb' hb7 (by decide) | exact ho7 _ _ | assumption | (intro e; simp_all))
                have hb7 := gb7; clear gb7
                have hce := hownc'.cells; have hoe := hownc'.one1
                try simp only [emitF, markOf, EM, hce, hoe, Option.bind_some, List.drop, f0, f7, hr0, hb2, hb7, nb2_r0, nr0_b2, nb7_r0, nr0_b7, nb7_b2, nb2_b7, List.length_map, exL, smL, smV, exV, RR, seval]
                refine hKB1 _ _ ⟨(by repeat (first | exact agB1 | refine agree.upd rfl ?_)), (by first | exact eB1_b2 | (simp only [nb2_r0, nr0_b2, nb7_r0, nr0_b7, nb7_b2, nb2_b7, upd_app, seval]; first | done | exact eB1_b2)), ?_⟩
                first | (have hq := a74; exact ⟨.mk 6 a57.text a74 [] [], m74, w74, _, by omega, hlt74, hres, by first | exact upd_same _ _ _ | (simp only [f0, f2, f7, hr0, hb2, hb7, nb2_r0, nr0_b2, nb7_r0, nr0_b7, nb7_b2, nb2_b7, List.length_map, exL, smL, smV, exV, upd_app, RR, seval]; rfl), .inr rfl, rfl, rfl, by first | exact hr0 | (simp only [f0, f2, f7, hr0, hb2, hb7, nb2_r0, nr0_b2, nb7_r0, nr0_b7, nb7_b2, nb2_b7, List.length_map, exL, smL, smV, exV, upd_app, RR, seval]; done), (fun _ _ h => by cases h), (fun _ _ h => by cases h)⟩) | (have hq := a94; exact ⟨.mk 2 a57.text [a83, a94] [] [], m94, w94, _, by omega, hlt94, hres, by first | exact upd_same _ _ _ | (simp only [f0, f2, f7, hr0, hb2, hb7, nb2_r0, nr0_b2, nb7_r0, nr0_b7, nb7_b2, nb2_b7, List.length_map, exL, smL, smV, exV, upd_app, RR, seval]; rfl), .inl (by simp only [Sm.es, List.map_cons, List.map_nil, Ex.row_eq]; exact hownb'.off ho7' _), rfl, rfl, by first | exact hr0 | (simp only [f0, f2, f7, hr0, hb2, hb7, nb2_r0, nr0_b2, nb7_r0, nr0_b7, nb7_b2, nb2_b7, List.length_map, exL, smL, smV, exV, upd_app, RR, seval]; done), ho2', ho7'⟩) | (have hq := a65; exact ⟨.mk 1 a57.text [a65] [] [], m65, w65, _, by omega, hlt65, hres, by first | exact upd_same _ _ _ | (simp only [f0, f2, f7, hr0, hb2, hb7, nb2_r0, nr0_b2, nb7_r0, nr0_b7, nb7_b2, nb2_b7, List.length_map, exL, smL, smV, exV, upd_app, RR, seval]; rfl), .inl (by simp only [Sm.es, List.map_cons, List.map_nil, Ex.row_eq]; exact hownc'.off ho7' _), rfl, rfl, by first | exact hr0 | (simp only [f0, f2, f7, hr0, hb2, hb7, nb2_r0, nr0_b2, nb7_r0, nr0_b7, nb7_b2, nb2_b7, List.length_map, exL, smL, smV, exV, upd_app, RR, seval]; done), ho2', ho7'⟩)
          rintro F34 M34 ⟨agx, gb2, x, m, w', v3, hnm, hm, hres, hb7, hown, hth, hel, hr0, ho2, ho7⟩
          have f0 := (agx 0 rfl).trans f0
          have f2 := (agx 2 rfl).trans f2
          have f7 := (agx 7 rfl).trans f7
          have hb2 := gb2.trans hb2
          clear agx
          clear gb2
          simp only [RR, seval]
          have h0 : M34 b7 = some (.rows 5 [[.int .i64 x.kind, .str x.name] ++ v3 :: [.nsl, .nsl]]) := hb7
          refine awp_sealL hown h0 (fun x hx => by simp only [List.mem_cons, List.not_mem_nil, or_false] at hx; rcases hx with rfl | rfl <;> exact noO_flat rfl) (fun x hx => by simp only [List.mem_cons, List.not_mem_nil, or_false] at hx; rcases hx with rfl | rfl <;> exact noO_flat rfl) ho7 fun F7a M7a hfF hb7' hbF => ?_
          have f0 := (hfF 0 (by rw [f0]; rfl)).trans f0
          have f2 := (hfF 2 (by rw [f2]; rfl)).trans f2
          have f7 := (hfF 7 (by rw [f7]; rfl)).trans f7
          have hr0 := hbF r0 _ _ nr0_b7 (hown.offsz hr0 (by decide)) rfl hr0
          have hb2 := hbF b2 _ _ nb2_b7 ho2 rfl hb2
          have hb7 : M7a b7 = some (.rows 5 [[.int .i64 x.kind, .str x.name, .isl 5 (x.es.map Ex.row), .nsl, .nsl]]) := hb7'
          clear hb7' h0 hfF hbF hown
          refine awp_seq_k fun K hK => ?_
          refine awp_region rfl ?_
          simp only [f0, hb2, hb7, hr0, nb2_r0, nr0_b2, nb7_r0, nr0_b7, nb7_b2, nb2_b7, List.length_map, exL, smL, smV, exV, RR, seval]
          refine awpC_jd (jmust_con r0 hT m w' hm [59] (by decide)) (by first | exact hr0 | (simp only [f0, f2, f7, hb2, hb7, hr0, nb2_r0, nr0_b2, nb7_r0, nr0_b7, nb7_b2, nb2_b7, List.length_map, exL, smL, smV, exV, upd_app, RR, seval]; done)) trivial fun a99 m99 w99 M35 hj99 hle99 hlt99 hn99x hk99x => ?_
          have hres := stW_step hres hj99
          have gb2 := hk99x b2 _ (by first | exact nb2_r0 | exact blk_ne hb2 hr0 (by decide) | (intro e; subst e; simp_all)) (by first | exact hb2 | exact upd_same _ _ _ | (simp only [f0, f2, f7, hb2, hb7, hr0, nb2_r0, nr0_b2, nb7_r0, nr0_b7, nb7_b2, nb2_b7, List.length_map, exL, smL, smV, exV, upd_app, RR, seval]; rfl))
          have gb7 := hk99x b7 _ (by first | exact nb7_r0 | exact blk_ne hb7 hr0 (by decide) | (intro e; subst e; simp_all)) (by first | exact hb7 | exact upd_same _ _ _ | (simp only [f0, f2, f7, hb2, hb7, hr0, nb2_r0, nr0_b2, nb7_r0, nr0_b7, nb7_b2, nb2_b7, List.length_map, exL, smL, smV, exV, upd_app, RR, seval]; rfl))
          have hb2 := gb2; clear gb2
          have hb7 := gb7; clear gb7
          have hr0 := hn99x; clear hn99x hk99x
          simp only [f0, hb2, hb7, hr0, nb2_r0, nr0_b2, nb7_r0, nr0_b7, nb7_b2, nb2_b7, List.length_map, exL, smL, smV, exV, RR, seval]
          refine hK _ _ ?_; clear hK K
          refine awp_seq_k fun K hK => ?_
          refine awp_region rfl ?_
          simp only [f2, f7, hb2, hb7, hr0, nb2_r0, nr0_b2, nb7_r0, nr0_b7, nb7_b2, nb2_b7, List.length_map, exL, smL, smV, exV, RR, seval]
          refine hK _ _ ?_; clear hK K
          refine awp_ret ?_; simp only [bodyQ, aresult, ares, f0, f2, f7, hb2, hb7, hr0, nb2_r0, nr0_b2, nb7_r0, nr0_b7, nb7_b2, nb2_b7, List.length_map, exL, smL, smV, exV, RR, seval]
          refine jgives (by first | exact hr0 | (simp only [f0, f2, f7, hb2, hb7, hr0, nb2_r0, nr0_b2, nb7_r0, nr0_b7, nb7_b2, nb2_b7, List.length_map, exL, smL, smV, exV, upd_app, RR, seval]; done)) hres ?_ (by omega) (by omega)
          simp only [smV, hth, hel, List.map_nil]
          exact Sub.aggR (by repeat' (first | exact SubR.nil | exact SubRs.nil | exact Sub.refl _ | exact Sub.nsl _ | refine SubR.cons ?_ ?_ | refine SubRs.cons ?_ ?_ | refine Sub.isl ?_ | refine Sub.aggR ?_))
end Go.Proofs.YtlpeikljipknoaaDoor
