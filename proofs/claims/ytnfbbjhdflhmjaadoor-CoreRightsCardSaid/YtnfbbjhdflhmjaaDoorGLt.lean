/- Chapter 19, the judge's: may statements be? -/
import Derived.Test.YtnfbbjhdflhmjaaDoorGLs
set_option linter.unusedSimpArgs false
set_option linter.unusedVariables false
set_option maxRecDepth 10000
namespace Go.Al
theorem Xo : ∀ (a0 a1 a2 c3 c4 q1 q2 q4 q5 q6 : Bool), (a0 = true ∨ (q2 = false ∧ a1 = false) ∨ (q1 = false ∧ q2 = false ∧ q6 = false ∧ a2 = false) ∨ (q4 = false ∧ c3 = true) ∨ (q4 = false ∧ q5 = false ∧ c4 = true)) ∨ (a0 = false ∧ (q2 || a1) = true ∧ (q1 || q2 || q6 || a2) = true ∧ (q4 || !c3) = true ∧ (q4 || q5 || !c4) = true) := by
 intro a0 a1 a2 c3 c4 q1 q2 q4 q5 q6
 by_cases h0 : a0 = true
 ·exact .inl (.inl h0)
 by_cases h1 : (q2 || a1) = true
 rotate_left
 ·exact .inl (.inr (.inl (by simpa using h1)))
 by_cases h2 : (q1 || q2 || q6 || a2) = true
 rotate_left
 ·exact .inl (.inr (.inr (.inl (by simpa [and_assoc] using h2))))
 by_cases h3 : (q4 || !c3) = true
 rotate_left
 ·exact .inl (.inr (.inr (.inr (.inl (by simpa using h3)))))
 by_cases h4 : (q4 || q5 || !c4) = true
 rotate_left
 ·exact .inl (.inr (.inr (.inr (.inr (by simpa [and_assoc] using h4)))))
 exact .inr ⟨by simpa using h0, h1, h2, h3, h4⟩
theorem nI (w : Int) (B : List CF) (wd : Bool) (lv : Int) : ∀ l : List CS, cR w B wd l lv = l.all fun e => fN w B wd e lv
 | [] => by simp only [cR, List.all_nil]
 | e :: l => by simp only [cR, nI w B wd lv l, List.all_cons]
theorem jG (w : Int) (B : List CF) (wd : Bool) (e : CS) (lv : Int) : fN w B wd e lv = (decide (lv ≤ 24) && lU w B wd e && eF w B e.es (lv + 1) && cR w B wd e.thn (lv + 1) && cR w B wd e.els (lv + 1)) := by
 cases e; rw [fN]; rfl
end Go.Al
namespace Go.Proofs.YtnfbbjhdflhmjaaDoor
open Go.Al
set_option maxHeartbeats 8000000 in
theorem Fe (w : Int) (hw : cX w) (cs : List CF) (f : Nat) (hf : f < cs.length) (wd : Bool) (hwd : cs[f].word = wd) (n : Nat) : ∀ (l : List CS) (lv : Int), cP l ≤ n → oV l → 0 ≤ lv → lv ≤ 1000 →
  dG cO 28 [.agg [.int .i64 w, .isl 5 (cs.map CF.row)], .int .i64 (f : Nat), .isl 6 (l.map CS.row), .int .i64 lv] (.bool (cR w (cs.take f) wd l lv)) := by
 induction n using Nat.strongRecOn with
 | _ n ih =>
   intro l lv hn ho hl1 hl2
   have hfit : l.length ≤ 9223372036854775807 := ho.fit
   have hcal := fun g m b => xI w cs f (Nat.le_of_lt hf) g m b
   have hex := fun (l : List CE) lv h1 h2 h3 => Ff w hw cs f (Nat.le_of_lt hf) (dM l) l lv (aY _) h1 h2 h3
   have hgF := jE (aH hf)
   rw [hwd] at hgF
   have hfl : f < (cs.map CF.row).length := by rw [aD]; exact hf
   generalize cs[f].params = F1 at hgF
   generalize cs[f].slots = F2 at hgF
   generalize cs[f].first = F3 at hgF
   generalize AV.isl 6 (cs[f].body.map CS.row) = F4 at hgF
   generalize cs.take f = B at *
   have hwi := fun a m => qX w (cs.map CF.row) a m hw
   generalize cs.map CF.row = CR at *
   have zl : IntKind.wrap .i64 (lv + 1) = lv + 1 := by rw [aR _ (by omega)]
   rw [nI]
   refine bD 175 [.tmp 8] Tryd.func28 rfl rfl rfl rfl ?_
   refine aB fun K hK => ?_
   refine aA rfl ?_
   simp only [RR, seval]
   refine aK fun b4 hn4 => ?_
   simp only [RR, seval]
   refine hK _ _ ?_; clear hK K
   refine aJ ?_
   refine aB fun K hK => ?_
   refine aA rfl ?_
   simp only [RR, seval]
   refine hK _ _ ?_; clear hK K
   refine bG fun F1 M1 hfr hH => ?_
   have g1 := hfr 1
   have g2 := hfr 2
   have g3 := hfr 3
   have g4 := hfr 4
   have g8 := hfr 8
   have g9 := hfr 9
   have gb4 := hH b4
   try simp only [RR, seval] at g1 g2 g3 g4 g8 g9 gb4
   have f1 := g1; clear g1
   have f2 := g2; clear g2
   have f3 := g3; clear g3
   have f4 := g4; clear g4
   have f8 := g8; clear g8
   have f9 := g9; clear g9
   have hb4 := gb4; clear gb4
   clear hfr hH
   refine aQ ?_
   refine bY [1, 2, 3, 4] (l.length) (fun k fr M => fr 9 = .int .i64 (k : Nat) ∧ M b4 = M1 b4 ∧ (l.take k).all (fun e => fN w B wd e lv) = true) ⟨f9, rfl, rfl⟩ ?_
   rintro k F2 M2 hk0 ⟨fx, gb4, hk⟩ agx K0 hK0
   have f1 := (agx 1 rfl).trans f1
   have f2 := (agx 2 rfl).trans f2
   have f3 := (agx 3 rfl).trans f3
   have f4 := (agx 4 rfl).trans f4
   have f9 := fx; clear fx
   have hb4 := gb4.trans hb4
   have ag0 := aW.refl [1, 2, 3, 4] F2
   have e0_b4 := gb4; clear gb4
   clear agx
   refine aJ ?_
   refine aB fun K hK => ?_
   refine aA rfl ?_
   simp only [f2, f9, aD, RR, seval]
   refine hK _ _ ?_; clear hK K
   refine aI _ rfl (fun hc => ?_) (fun hc => ?_)
   ·have hlt0 : k < l.length := by have := aC hc; omega
    clear hc
    have hg0 := aH hlt0
    have hm := jO (bA hlt0)
    have hoe := ho.all _ (bA hlt0)
    have hs := (l[k]).sz_eq
    have hg := oZ hg0
    generalize l[k] = e at hg0 hm hoe hs hg
    have hke := fun h => hex e.es (lv + 1) hoe.es (by omega) h
    have hkt := ih (cP e.thn) (by omega) e.thn (lv + 1) (aY _) hoe.thn (by omega)
    have hku := ih (cP e.els) (by omega) e.els (lv + 1) (aY _) hoe.els (by omega)
    have hbad : fN w B wd e lv = false → AV.bool false = AV.bool (l.all fun e => fN w B wd e lv) := fun h1 => by rw [qH hg0 h1]
    have htk := pM hg0 hk
    rw [jG] at hbad htk
    have hF : lU w B wd e = ((decide (e.kind = 2) || decide (e.size = 0)) && (decide (e.kind = 1) || decide (e.kind = 2) || decide (e.kind = 6) || decide (e.slot = 0)) && (decide (e.kind = 4) || decide (e.els.length = 0)) && (decide (e.kind = 4) || decide (e.kind = 5) || decide (e.thn.length = 0)) &&
     (if e.kind = 1 then cF w e.slot 1 && decide (e.es.length = 1) else if e.kind = 2 then decide (1 ≤ e.size) && decide (e.size ≤ 4096) && cF w e.slot e.size && decide (e.es.length = 2) else if e.kind = 3 ∨ e.kind = 4 ∨ e.kind = 5 then decide (e.es.length = 1)
      else if e.kind = 6 then eT B e.slot e.es.length false else if e.kind = 7 then decide (e.es.length = 0) || wd && decide (e.es.length = 1) else false)) := rfl
    have c1 := hwi e.slot 1
    have c2 := hwi e.slot e.size
    have c3 := hcal e.slot e.es.length false
    have hneg : ∀ {p q : Prop} [Decidable p] [Decidable q], (q ↔ ¬ p) → decide q = !decide p := fun h => by
     rename_i p q _ _
     by_cases hp : p
     ·rw [bB hp, aN (fun hq => (h.1 hq) hp)]; rfl
     rw [aN hp, bB (h.2 hp)]; rfl
    have n0 : decide (lv ≤ 24) = !decide (24 < lv) := hneg (by omega)
    have n1 : decide (1 ≤ e.size) = !decide (e.size < 1) := hneg (by omega)
    have n2 : decide (e.size ≤ 4096) = !decide (4096 < e.size) := hneg (by omega)
    have n3 : decide (e.els.length = 0) = !decide (0 < (e.els.length : Int)) := hneg (by omega)
    have n4 : decide (e.thn.length = 0) = !decide (0 < (e.thn.length : Int)) := hneg (by omega)
    have n5 : decide (e.es.length = 0) = decide ((e.es.length : Int) = 0) := by by_cases h : e.es.length = 0 <;> simp [h]
    rw [n1, n2, n3, n4, n5] at hF
    rw [n0] at hbad htk
    clear hneg n0 n1 n2 n3 n4 n5
    generalize cF w e.slot 1 = i1 at *
    generalize cF w e.slot e.size = i2 at *
    generalize eT B e.slot e.es.length false = i3 at *
    obtain ⟨q1, q2, q3, q4, q5, q6, q7, q8, q9, ⟨d1, d2, d3, d4, d5, d6, d7, d8, d9⟩, hq⟩ := Cb e.kind
    generalize ha0 : decide (24 < lv) = a0 at *
    generalize ha1 : decide (e.size = 0) = a1 at *
    generalize ha2 : decide (e.slot = 0) = a2 at *
    generalize ha3 : decide ((0 : Int) < (e.els.length : Int)) = a3 at *
    generalize ha4 : decide ((0 : Int) < (e.thn.length : Int)) = a4 at *
    generalize hb1c : decide (e.size < 1) = b1 at *
    generalize hb2c : decide (4096 < e.size) = b2 at *
    generalize hb3c : decide ((e.es.length : Int) = 0) = b3 at *
    rw [d1, d2, d4, d5, d6] at hF
    generalize hfc : lU w B wd e = fc at *
    generalize eF w B e.es (lv + 1) = a5 at *
    generalize cR w B wd e.thn (lv + 1) = a6 at *
    generalize cR w B wd e.els (lv + 1) = a7 at *
    have hmk : (fc = false ∨ a0 = true ∨ a5 = false ∨ a6 = false ∨ a7 = false) → AV.bool false = AV.bool (l.all fun e => fN w B wd e lv) := fun h => hbad (by rcases h with h | h | h | h | h <;> rw [h] <;> simp only [Bool.not_true, Bool.false_and, Bool.and_false])
    rcases Xo a0 a1 a2 a3 a4 q1 q2 q4 q5 q6 with (rfl | ⟨rfl, rfl⟩ | ⟨rfl, rfl, rfl, rfl⟩ | ⟨rfl, rfl⟩ | ⟨rfl, rfl, rfl⟩) | ⟨rfl, p1, p2, p3, p4⟩
    rotate_left 5
    rcases hq with ⟨⟨rfl, hk1⟩, rfl, rfl, rfl, rfl, rfl, rfl, rfl, rfl⟩ | ⟨rfl, ⟨rfl, hk1⟩, rfl, rfl, rfl, rfl, rfl, rfl, rfl⟩ | ⟨rfl, rfl, ⟨rfl, hk1⟩, rfl, rfl, rfl, rfl, rfl, rfl⟩ | ⟨rfl, rfl, rfl, ⟨rfl, hk1⟩, rfl, rfl, rfl, rfl, rfl⟩ | ⟨rfl, rfl, rfl, rfl, ⟨rfl, hk1⟩, rfl, rfl, rfl, rfl⟩ | ⟨rfl, rfl, rfl, rfl, rfl, ⟨rfl, hk1⟩, rfl, rfl, rfl⟩ | ⟨rfl, rfl, rfl, rfl, rfl, rfl, ⟨rfl, hk1⟩, rfl, rfl⟩ | ⟨rfl, rfl, rfl, rfl, rfl, rfl, rfl, ⟨rfl, hk1⟩, rfl⟩ | ⟨rfl, rfl, rfl, rfl, rfl, rfl, rfl, rfl, ⟨rfl, hk1⟩⟩ | ⟨rfl, rfl, rfl, rfl, rfl, rfl, rfl, rfl, rfl, hk1⟩
    all_goals try (simp only [Bool.false_or] at p1)
    all_goals try (simp only [Bool.false_or, Bool.or_false] at p2)
    all_goals try (simp only [Bool.false_or, Bool.not_eq_true'] at p3)
    all_goals try (simp only [Bool.false_or, Bool.or_false, Bool.not_eq_true'] at p4)
    all_goals try subst p1
    all_goals try subst p2
    all_goals try subst p3
    all_goals try subst p4
    all_goals try (simp [hk1] at hF)
    all_goals try (have h2 : e.kind = 1 := hk1; clear h2; cases i1)
    all_goals try (have h2 : e.kind = 2 := hk1; clear h2; cases b1 <;> cases b2 <;> cases i2)
    all_goals try (have h2 : e.kind = 6 := hk1; clear h2; cases i3)
    all_goals try (have h2 : e.kind = 7 := hk1; clear h2; cases b3 <;> cases wd)
    all_goals try (simp only [Bool.true_and, Bool.false_and, Bool.not_true, Bool.not_false, Bool.and_true, Bool.and_false, Bool.true_or, Bool.false_or] at hF)
    all_goals
     refine aL ?_; try simp only [RR]
     refine aJ ?_
     refine aQ ?_
     refine aB fun K hK => ?_
     refine aA rfl ?_
     simp only [f2, f9, hg, RR, seval]
     refine aK fun b10 hn10 => ?_
     have nb10_b4 : b10 ≠ b4 := fun e => by rw [e] at hn10; simp only [hb4, seval, reduceCtorEq] at hn10
     have nb4_b10 : b4 ≠ b10 := fun e => nb10_b4 e.symm
     simp only [RR, seval]
     refine hK _ _ ?_; clear hK K
     refine aJ ?_
     refine aB fun K hK => ?_
     refine aA rfl ?_
     simp only [f3, aD, d1, d2, d4, d5, d6, ha0, ha1, ha2, ha3, ha4, RR, seval]
     repeat' ((first | refine aS (fun h => ?_) (fun h => ?_) | refine aT (fun h => ?_) (fun h => ?_)) <;> simp only [h, aD, d1, d2, d4, d5, d6, ha1, ha2, ha3, ha4, RR, seval])
     all_goals
      refine hK _ _ ?_; clear hK K
      refine aI _ rfl (fun hc5 => ?_) (fun hc5 => ?_)
      ·try (cases hc5; done)
       all_goals
        refine aB fun K hK => ?_
        refine aA rfl ?_
        simp only [RR, seval]
        refine hK _ _ ?_; clear hK K
        refine aP ?_; simp only [aV, aM, bE, RR, seval]
        refine aU.pure ?_
        first | exact hmk (.inl hF) | (exact hmk (.inr (.inl rfl))) | (exact hmk (.inl (by rw [hF]; simp only [Bool.or_self, Bool.false_and, Bool.and_false]))) | (exact hmk (.inr (.inr (.inl (by simpa using ‹(!a5) = true›))))) | (exact hmk (.inr (.inr (.inr (.inl (by simpa using ‹(!a6) = true›)))))) | (exact hmk (.inr (.inr (.inr (.inr (by simpa using hc27)))))) | (exact hmk (.inl (by rw [hfm]; exact aN (fun c => by have := ‹(!decide ((e.es.length : Int) = (nk : Int))) = true›; rw [c] at this; simp at this)))) | (rw [hkn0, List.take_length] at hk; rw [hk])
      try (cases hc5; done)
      all_goals
       refine aL ?_; try simp only [RR]
       refine aB fun K hK => ?_
       refine aA rfl ?_
       simp only [RR, seval]
       refine hK _ _ ?_; clear hK K
       refine aJ ?_
       refine aB fun K hK => ?_
       refine aA rfl ?_
       simp only [RR, seval]
       refine hK _ _ ?_; clear hK K
       refine bG fun F3 M3 hfr hH => ?_
       have g1 := hfr 1
       have g2 := hfr 2
       have g3 := hfr 3
       have g4 := hfr 4
       have g8 := hfr 8
       have g9 := hfr 9
       have g10 := hfr 10
       have g11 := hfr 11
       have g82 := hfr 82
       have gb4 := hH b4
       have gb10 := hH b10
       try simp only [f1, f2, f3, f4, f9, hb4, nb4_b10, RR, seval] at g1 g2 g3 g4 g8 g9 g10 g11 g82 gb4 gb10
       have ag0 : aW [1, 2, 3, 4] F2 F3 := aW.same hfr (by repeat (first | exact ag0 | refine aW.upd rfl ?_))
       have e0_b4 := (hH b4).trans (by first | exact e0_b4 | (simp only [nb4_b10, aG, seval]; first | done | exact e0_b4))
       have f11 : F3 11 = .int .i64 ((1 : Nat) : Int) := (hfr 11).trans (by simp only [aG, RR, seval]; first | rfl | done)
       have f1 := g1; clear g1
       have f2 := g2; clear g2
       have f3 := g3; clear g3
       have f4 := g4; clear g4
       have f8 := g8; clear g8
       have f9 := g9; clear g9
       have f10 := g10; clear g10
       have f11 := g11; clear g11
       have f82 := g82; clear g82
       have hb4 := gb4; clear gb4
       have hb10 := gb10; clear gb10
       clear hfr hH
       refine dH (fun fr M => aW [1, 2, 3, 4, 9, 10, 82] F3 fr ∧ M b4 = M3 b4 ∧ M b10 = M3 b10 ∧ ∃ nk : Nat, fr 11 = .int .i64 (nk : Nat) ∧ fc = decide (e.es.length = nk)) (fun KB2 hKB2 => ?_) ?_
       ·have agB2 := aW.refl [1, 2, 3, 4, 9, 10, 82] F3
        have eB2_b4 : M3 b4 = M3 b4 := rfl
        have eB2_b10 : M3 b10 = M3 b10 := rfl
        refine aQ ?_
        refine aB fun K hK => ?_
        refine aA rfl ?_
        simp only [f82, d1, RR, seval]
        refine hK _ _ ?_; clear hK K
        refine aI _ rfl (fun hc10 => ?_) (fun hc10 => ?_)
        ·try (cases hc10; done)
         all_goals
          refine aB fun K hK => ?_
          refine aA rfl ?_
          simp only [f4, f10, hb4, hb10, RR, seval]
          refine aO (c1) ?_
          simp only [RR, seval]
          refine hK _ _ ?_; clear hK K
          refine aI _ rfl (fun hc11 => ?_) (fun hc11 => ?_)
          ·try (cases hc11; done)
           all_goals
            refine aB fun K hK => ?_
            refine aA rfl ?_
            simp only [RR, seval]
            refine hK _ _ ?_; clear hK K
            refine aP ?_; simp only [aV, aM, bE, RR, seval]
            refine aU.pure ?_
            first | exact hmk (.inl hF) | (exact hmk (.inr (.inl rfl))) | (exact hmk (.inl (by rw [hF]; simp only [Bool.or_self, Bool.false_and, Bool.and_false]))) | (exact hmk (.inr (.inr (.inl (by simpa using ‹(!a5) = true›))))) | (exact hmk (.inr (.inr (.inr (.inl (by simpa using ‹(!a6) = true›)))))) | (exact hmk (.inr (.inr (.inr (.inr (by simpa using hc27)))))) | (exact hmk (.inl (by rw [hfm]; exact aN (fun c => by have := ‹(!decide ((e.es.length : Int) = (nk : Int))) = true›; rw [c] at this; simp at this)))) | (rw [hkn0, List.take_length] at hk; rw [hk])
          try (cases hc11; done)
          all_goals
           refine aL ?_; try simp only [RR]
           refine hKB2 _ _ ⟨(by repeat (first | exact agB2 | refine aW.upd rfl ?_)), (by first | exact eB2_b4 | (simp only [nb10_b4, nb4_b10, aG, seval]; first | done | exact eB2_b4)), (by first | exact eB2_b10 | (simp only [nb10_b4, nb4_b10, aG, seval]; first | done | exact eB2_b10)), _, (by first | rfl | exact f11), ?_⟩
           all_goals first | exact hF | (rw [hF]; simp; done) | (rw [hF]; have e0 : e.es.length = 0 := (by have := aC hb3c; omega); exact (bB e0).symm) | (rw [hF]; have e0 : ¬ e.es.length = 0 := (by have := aF hb3c; omega); exact (aN e0).symm)
        try (cases hc10; done)
        all_goals
         refine aB fun K hK => ?_
         refine aA rfl ?_
         simp only [f82, d2, RR, seval]
         refine hK _ _ ?_; clear hK K
         refine aI _ rfl (fun hc13 => ?_) (fun hc13 => ?_)
         ·try (cases hc13; done)
          all_goals
           refine aB fun K hK => ?_
           refine aA rfl ?_
           simp only [RR, seval]
           refine hK _ _ ?_; clear hK K
           refine aB fun K hK => ?_
           refine aA rfl ?_
           simp only [f4, f10, hb4, hb10, hb1c, hb2c, RR, seval]
           all_goals try ((first | refine aS (fun h => ?_) (fun h => ?_) | refine aT (fun h => ?_) (fun h => ?_)) <;> simp only [h, f1, f2, f3, f4, f8, f9, f10, f11, f82, hb4, hb10, nb10_b4, nb4_b10, aD, hg, d1, d2, d3, d4, d5, d6, d7, d8, d9, ha0, ha1, ha2, ha3, ha4, zl, hb1c, hb2c, hb3c, hgF, hfl, RR, seval])
           all_goals try ((first | refine aS (fun h => ?_) (fun h => ?_) | refine aT (fun h => ?_) (fun h => ?_)) <;> simp only [h, f1, f2, f3, f4, f8, f9, f10, f11, f82, hb4, hb10, nb10_b4, nb4_b10, aD, hg, d1, d2, d3, d4, d5, d6, d7, d8, d9, ha0, ha1, ha2, ha3, ha4, zl, hb1c, hb2c, hb3c, hgF, hfl, RR, seval])
           all_goals try (refine aO (c2) ?_; simp only [RR, seval])
           all_goals
            refine hK _ _ ?_; clear hK K
            refine aI _ rfl (fun hc15 => ?_) (fun hc15 => ?_)
            ·try (cases hc15; done)
             all_goals
              refine aB fun K hK => ?_
              refine aA rfl ?_
              simp only [RR, seval]
              refine hK _ _ ?_; clear hK K
              refine aP ?_; simp only [aV, aM, bE, RR, seval]
              refine aU.pure ?_
              first | exact hmk (.inl hF) | (exact hmk (.inr (.inl rfl))) | (exact hmk (.inl (by rw [hF]; simp only [Bool.or_self, Bool.false_and, Bool.and_false]))) | (exact hmk (.inr (.inr (.inl (by simpa using ‹(!a5) = true›))))) | (exact hmk (.inr (.inr (.inr (.inl (by simpa using ‹(!a6) = true›)))))) | (exact hmk (.inr (.inr (.inr (.inr (by simpa using hc27)))))) | (exact hmk (.inl (by rw [hfm]; exact aN (fun c => by have := ‹(!decide ((e.es.length : Int) = (nk : Int))) = true›; rw [c] at this; simp at this)))) | (rw [hkn0, List.take_length] at hk; rw [hk])
            try (cases hc15; done)
            all_goals
             refine aL ?_; try simp only [RR]
             refine hKB2 _ _ ⟨(by repeat (first | exact agB2 | refine aW.upd rfl ?_)), (by first | exact eB2_b4 | (simp only [nb10_b4, nb4_b10, aG, seval]; first | done | exact eB2_b4)), (by first | exact eB2_b10 | (simp only [nb10_b4, nb4_b10, aG, seval]; first | done | exact eB2_b10)), _, (by first | rfl | exact f11), ?_⟩
             all_goals first | exact hF | (rw [hF]; simp; done) | (rw [hF]; have e0 : e.es.length = 0 := (by have := aC hb3c; omega); exact (bB e0).symm) | (rw [hF]; have e0 : ¬ e.es.length = 0 := (by have := aF hb3c; omega); exact (aN e0).symm)
         try (cases hc13; done)
         all_goals
          refine aJ ?_
          refine aB fun K hK => ?_
          refine aA rfl ?_
          simp only [f82, d3, RR, seval]
          refine hK _ _ ?_; clear hK K
          refine aI _ rfl (fun hc17 => ?_) (fun hc17 => ?_)
          ·try (cases hc17; done)
           all_goals
            refine aL ?_; try simp only [RR]
            refine aI _ rfl (fun hc17 => ?_) (fun hc17 => ?_)
            ·try (cases hc17; done)
             all_goals
              refine aL ?_; try simp only [RR]
              refine hKB2 _ _ ⟨(by repeat (first | exact agB2 | refine aW.upd rfl ?_)), (by first | exact eB2_b4 | (simp only [nb10_b4, nb4_b10, aG, seval]; first | done | exact eB2_b4)), (by first | exact eB2_b10 | (simp only [nb10_b4, nb4_b10, aG, seval]; first | done | exact eB2_b10)), _, (by first | rfl | exact f11), ?_⟩
              all_goals first | exact hF | (rw [hF]; simp; done) | (rw [hF]; have e0 : e.es.length = 0 := (by have := aC hb3c; omega); exact (bB e0).symm) | (rw [hF]; have e0 : ¬ e.es.length = 0 := (by have := aF hb3c; omega); exact (aN e0).symm)
            try (cases hc17; done)
            all_goals
             refine aB fun K hK => ?_
             refine aA rfl ?_
             simp only [f82, aD, hg, d1, d2, d3, d4, d5, d6, d7, d8, d9, ha0, ha1, ha2, ha3, ha4, zl, hb1c, hb2c, hb3c, hgF, hfl, RR, seval]
             refine hK _ _ ?_; clear hK K
             refine aI _ rfl (fun hc20 => ?_) (fun hc20 => ?_)
             ·try (cases hc20; done)
              all_goals
               refine aB fun K hK => ?_
               refine aA rfl ?_
               simp only [f10, hb4, hb10, nb10_b4, nb4_b10, aD, hg, d1, d2, d3, d4, d5, d6, d7, d8, d9, ha0, ha1, ha2, ha3, ha4, zl, hb1c, hb2c, hb3c, hgF, hfl, RR, seval]
               refine hK _ _ ?_; clear hK K
               refine aB fun K hK => ?_
               refine aA rfl ?_
               simp only [f1, f4, f10, f11, hb4, hb10, nb10_b4, nb4_b10, aD, hg, d1, d2, d3, d4, d5, d6, d7, d8, d9, ha0, ha1, ha2, ha3, ha4, zl, hb1c, hb2c, hb3c, hgF, hfl, RR, seval]
               refine aO (c3) ?_
               simp only [f1, f4, f10, f11, hb4, hb10, nb10_b4, nb4_b10, aD, hg, d1, d2, d3, d4, d5, d6, d7, d8, d9, ha0, ha1, ha2, ha3, ha4, zl, hb1c, hb2c, hb3c, hgF, hfl, RR, seval]
               refine hK _ _ ?_; clear hK K
               refine aI _ rfl (fun hc22 => ?_) (fun hc22 => ?_)
               ·try (cases hc22; done)
                all_goals
                 refine aB fun K hK => ?_
                 refine aA rfl ?_
                 simp only [aD, hg, d1, d2, d3, d4, d5, d6, d7, d8, d9, ha0, ha1, ha2, ha3, ha4, zl, hb1c, hb2c, hb3c, hgF, hfl, RR, seval]
                 refine hK _ _ ?_; clear hK K
                 refine aP ?_; simp only [aV, aM, bE, f8, aD, hg, d1, d2, d3, d4, d5, d6, d7, d8, d9, ha0, ha1, ha2, ha3, ha4, zl, hb1c, hb2c, hb3c, hgF, hfl, RR, seval]
                 refine aU.pure ?_
                 first | exact hmk (.inl hF) | (exact hmk (.inr (.inl rfl))) | (exact hmk (.inl (by rw [hF]; simp only [Bool.or_self, Bool.false_and, Bool.and_false]))) | (exact hmk (.inr (.inr (.inl (by simpa using ‹(!a5) = true›))))) | (exact hmk (.inr (.inr (.inr (.inl (by simpa using ‹(!a6) = true›)))))) | (exact hmk (.inr (.inr (.inr (.inr (by simpa using hc27)))))) | (exact hmk (.inl (by rw [hfm]; exact aN (fun c => by have := ‹(!decide ((e.es.length : Int) = (nk : Int))) = true›; rw [c] at this; simp at this)))) | (rw [hkn0, List.take_length] at hk; rw [hk])
               try (cases hc22; done)
               all_goals
                refine aL ?_; try simp only [RR]
                refine hKB2 _ _ ⟨(by repeat (first | exact agB2 | refine aW.upd rfl ?_)), (by first | exact eB2_b4 | (simp only [nb10_b4, nb4_b10, aG, seval]; first | done | exact eB2_b4)), (by first | exact eB2_b10 | (simp only [nb10_b4, nb4_b10, aG, seval]; first | done | exact eB2_b10)), _, (by first | rfl | exact f11), ?_⟩
                all_goals first | exact hF | (rw [hF]; simp; done) | (rw [hF]; have e0 : e.es.length = 0 := (by have := aC hb3c; omega); exact (bB e0).symm) | (rw [hF]; have e0 : ¬ e.es.length = 0 := (by have := aF hb3c; omega); exact (aN e0).symm)
             try (cases hc20; done)
             all_goals
              refine aB fun K hK => ?_
              refine aA rfl ?_
              simp only [f82, aD, hg, d1, d2, d3, d4, d5, d6, d7, d8, d9, ha0, ha1, ha2, ha3, ha4, zl, hb1c, hb2c, hb3c, hgF, hfl, RR, seval]
              refine hK _ _ ?_; clear hK K
              refine aI _ rfl (fun hc24 => ?_) (fun hc24 => ?_)
              ·try (cases hc24; done)
               all_goals
                refine aB fun K hK => ?_
                refine aA rfl ?_
                simp only [f1, f4, f10, hb4, hb10, nb10_b4, nb4_b10, aD, hg, d1, d2, d3, d4, d5, d6, d7, d8, d9, ha0, ha1, ha2, ha3, ha4, zl, hb1c, hb2c, hb3c, hgF, hfl, RR, seval]
                repeat' ((first | refine aS (fun h => ?_) (fun h => ?_) | refine aT (fun h => ?_) (fun h => ?_)) <;> simp only [h, f1, f2, f3, f4, f8, f9, f10, f11, f82, hb4, hb10, nb10_b4, nb4_b10, aD, hg, d1, d2, d3, d4, d5, d6, d7, d8, d9, ha0, ha1, ha2, ha3, ha4, zl, hb1c, hb2c, hb3c, hgF, hfl, RR, seval])
                all_goals
                 refine hK _ _ ?_; clear hK K
                 refine aI _ rfl (fun hc25 => ?_) (fun hc25 => ?_)
                 ·try (cases hc25; done)
                  all_goals
                   refine aA rfl ?_
                   simp only [aD, hg, d1, d2, d3, d4, d5, d6, d7, d8, d9, ha0, ha1, ha2, ha3, ha4, zl, hb1c, hb2c, hb3c, hgF, hfl, RR, seval]
                   refine hKB2 _ _ ⟨(by repeat (first | exact agB2 | refine aW.upd rfl ?_)), (by first | exact eB2_b4 | (simp only [nb10_b4, nb4_b10, aG, seval]; first | done | exact eB2_b4)), (by first | exact eB2_b10 | (simp only [nb10_b4, nb4_b10, aG, seval]; first | done | exact eB2_b10)), _, (by first | rfl | exact f11), ?_⟩
                   all_goals first | exact hF | (rw [hF]; simp; done) | (rw [hF]; have e0 : e.es.length = 0 := (by have := aC hb3c; omega); exact (bB e0).symm) | (rw [hF]; have e0 : ¬ e.es.length = 0 := (by have := aF hb3c; omega); exact (aN e0).symm)
                 try (cases hc25; done)
                 all_goals
                  refine aL ?_; try simp only [RR]
                  refine hKB2 _ _ ⟨(by repeat (first | exact agB2 | refine aW.upd rfl ?_)), (by first | exact eB2_b4 | (simp only [nb10_b4, nb4_b10, aG, seval]; first | done | exact eB2_b4)), (by first | exact eB2_b10 | (simp only [nb10_b4, nb4_b10, aG, seval]; first | done | exact eB2_b10)), _, (by first | rfl | exact f11), ?_⟩
                  all_goals first | exact hF | (rw [hF]; simp; done) | (rw [hF]; have e0 : e.es.length = 0 := (by have := aC hb3c; omega); exact (bB e0).symm) | (rw [hF]; have e0 : ¬ e.es.length = 0 := (by have := aF hb3c; omega); exact (aN e0).symm)
              try (cases hc24; done)
              all_goals
               refine aB fun K hK => ?_
               refine aA rfl ?_
               simp only [aD, hg, d1, d2, d3, d4, d5, d6, d7, d8, d9, ha0, ha1, ha2, ha3, ha4, zl, hb1c, hb2c, hb3c, hgF, hfl, RR, seval]
               refine hK _ _ ?_; clear hK K
               refine aP ?_; simp only [aV, aM, bE, f8, aD, hg, d1, d2, d3, d4, d5, d6, d7, d8, d9, ha0, ha1, ha2, ha3, ha4, zl, hb1c, hb2c, hb3c, hgF, hfl, RR, seval]
               refine aU.pure ?_
               first | exact hmk (.inl hF) | (exact hmk (.inr (.inl rfl))) | (exact hmk (.inl (by rw [hF]; simp only [Bool.or_self, Bool.false_and, Bool.and_false]))) | (exact hmk (.inr (.inr (.inl (by simpa using ‹(!a5) = true›))))) | (exact hmk (.inr (.inr (.inr (.inl (by simpa using ‹(!a6) = true›)))))) | (exact hmk (.inr (.inr (.inr (.inr (by simpa using hc27)))))) | (exact hmk (.inl (by rw [hfm]; exact aN (fun c => by have := ‹(!decide ((e.es.length : Int) = (nk : Int))) = true›; rw [c] at this; simp at this)))) | (rw [hkn0, List.take_length] at hk; rw [hk])
          try (cases hc17; done)
          all_goals
           refine aB fun K hK => ?_
           refine aA rfl ?_
           simp only [f82, d4, RR, seval]
           refine hK _ _ ?_; clear hK K
           refine aI _ rfl (fun hc18 => ?_) (fun hc18 => ?_)
           ·try (cases hc18; done)
            all_goals
             refine aL ?_; try simp only [RR]
             refine aI _ rfl (fun hc18 => ?_) (fun hc18 => ?_)
             ·try (cases hc18; done)
              all_goals
               refine aL ?_; try simp only [RR]
               refine hKB2 _ _ ⟨(by repeat (first | exact agB2 | refine aW.upd rfl ?_)), (by first | exact eB2_b4 | (simp only [nb10_b4, nb4_b10, aG, seval]; first | done | exact eB2_b4)), (by first | exact eB2_b10 | (simp only [nb10_b4, nb4_b10, aG, seval]; first | done | exact eB2_b10)), _, (by first | rfl | exact f11), ?_⟩
               all_goals first | exact hF | (rw [hF]; simp; done) | (rw [hF]; have e0 : e.es.length = 0 := (by have := aC hb3c; omega); exact (bB e0).symm) | (rw [hF]; have e0 : ¬ e.es.length = 0 := (by have := aF hb3c; omega); exact (aN e0).symm)
             try (cases hc18; done)
             all_goals
              refine aB fun K hK => ?_
              refine aA rfl ?_
              simp only [f82, aD, hg, d1, d2, d3, d4, d5, d6, d7, d8, d9, ha0, ha1, ha2, ha3, ha4, zl, hb1c, hb2c, hb3c, hgF, hfl, RR, seval]
              refine hK _ _ ?_; clear hK K
              refine aI _ rfl (fun hc20 => ?_) (fun hc20 => ?_)
              ·try (cases hc20; done)
               all_goals
                refine aB fun K hK => ?_
                refine aA rfl ?_
                simp only [f10, hb4, hb10, nb10_b4, nb4_b10, aD, hg, d1, d2, d3, d4, d5, d6, d7, d8, d9, ha0, ha1, ha2, ha3, ha4, zl, hb1c, hb2c, hb3c, hgF, hfl, RR, seval]
                refine hK _ _ ?_; clear hK K
                refine aB fun K hK => ?_
                refine aA rfl ?_
                simp only [f1, f4, f10, f11, hb4, hb10, nb10_b4, nb4_b10, aD, hg, d1, d2, d3, d4, d5, d6, d7, d8, d9, ha0, ha1, ha2, ha3, ha4, zl, hb1c, hb2c, hb3c, hgF, hfl, RR, seval]
                refine aO (c3) ?_
                simp only [f1, f4, f10, f11, hb4, hb10, nb10_b4, nb4_b10, aD, hg, d1, d2, d3, d4, d5, d6, d7, d8, d9, ha0, ha1, ha2, ha3, ha4, zl, hb1c, hb2c, hb3c, hgF, hfl, RR, seval]
                refine hK _ _ ?_; clear hK K
                refine aI _ rfl (fun hc22 => ?_) (fun hc22 => ?_)
                ·try (cases hc22; done)
                 all_goals
                  refine aB fun K hK => ?_
                  refine aA rfl ?_
                  simp only [aD, hg, d1, d2, d3, d4, d5, d6, d7, d8, d9, ha0, ha1, ha2, ha3, ha4, zl, hb1c, hb2c, hb3c, hgF, hfl, RR, seval]
                  refine hK _ _ ?_; clear hK K
                  refine aP ?_; simp only [aV, aM, bE, f8, aD, hg, d1, d2, d3, d4, d5, d6, d7, d8, d9, ha0, ha1, ha2, ha3, ha4, zl, hb1c, hb2c, hb3c, hgF, hfl, RR, seval]
                  refine aU.pure ?_
                  first | exact hmk (.inl hF) | (exact hmk (.inr (.inl rfl))) | (exact hmk (.inl (by rw [hF]; simp only [Bool.or_self, Bool.false_and, Bool.and_false]))) | (exact hmk (.inr (.inr (.inl (by simpa using ‹(!a5) = true›))))) | (exact hmk (.inr (.inr (.inr (.inl (by simpa using ‹(!a6) = true›)))))) | (exact hmk (.inr (.inr (.inr (.inr (by simpa using hc27)))))) | (exact hmk (.inl (by rw [hfm]; exact aN (fun c => by have := ‹(!decide ((e.es.length : Int) = (nk : Int))) = true›; rw [c] at this; simp at this)))) | (rw [hkn0, List.take_length] at hk; rw [hk])
                try (cases hc22; done)
                all_goals
                 refine aL ?_; try simp only [RR]
                 refine hKB2 _ _ ⟨(by repeat (first | exact agB2 | refine aW.upd rfl ?_)), (by first | exact eB2_b4 | (simp only [nb10_b4, nb4_b10, aG, seval]; first | done | exact eB2_b4)), (by first | exact eB2_b10 | (simp only [nb10_b4, nb4_b10, aG, seval]; first | done | exact eB2_b10)), _, (by first | rfl | exact f11), ?_⟩
                 all_goals first | exact hF | (rw [hF]; simp; done) | (rw [hF]; have e0 : e.es.length = 0 := (by have := aC hb3c; omega); exact (bB e0).symm) | (rw [hF]; have e0 : ¬ e.es.length = 0 := (by have := aF hb3c; omega); exact (aN e0).symm)
              try (cases hc20; done)
              all_goals
               refine aB fun K hK => ?_
               refine aA rfl ?_
               simp only [f82, aD, hg, d1, d2, d3, d4, d5, d6, d7, d8, d9, ha0, ha1, ha2, ha3, ha4, zl, hb1c, hb2c, hb3c, hgF, hfl, RR, seval]
               refine hK _ _ ?_; clear hK K
               refine aI _ rfl (fun hc24 => ?_) (fun hc24 => ?_)
               ·try (cases hc24; done)
                all_goals
                 refine aB fun K hK => ?_
                 refine aA rfl ?_
                 simp only [f1, f4, f10, hb4, hb10, nb10_b4, nb4_b10, aD, hg, d1, d2, d3, d4, d5, d6, d7, d8, d9, ha0, ha1, ha2, ha3, ha4, zl, hb1c, hb2c, hb3c, hgF, hfl, RR, seval]
                 repeat' ((first | refine aS (fun h => ?_) (fun h => ?_) | refine aT (fun h => ?_) (fun h => ?_)) <;> simp only [h, f1, f2, f3, f4, f8, f9, f10, f11, f82, hb4, hb10, nb10_b4, nb4_b10, aD, hg, d1, d2, d3, d4, d5, d6, d7, d8, d9, ha0, ha1, ha2, ha3, ha4, zl, hb1c, hb2c, hb3c, hgF, hfl, RR, seval])
                 all_goals
                  refine hK _ _ ?_; clear hK K
                  refine aI _ rfl (fun hc25 => ?_) (fun hc25 => ?_)
                  ·try (cases hc25; done)
                   all_goals
                    refine aA rfl ?_
                    simp only [aD, hg, d1, d2, d3, d4, d5, d6, d7, d8, d9, ha0, ha1, ha2, ha3, ha4, zl, hb1c, hb2c, hb3c, hgF, hfl, RR, seval]
                    refine hKB2 _ _ ⟨(by repeat (first | exact agB2 | refine aW.upd rfl ?_)), (by first | exact eB2_b4 | (simp only [nb10_b4, nb4_b10, aG, seval]; first | done | exact eB2_b4)), (by first | exact eB2_b10 | (simp only [nb10_b4, nb4_b10, aG, seval]; first | done | exact eB2_b10)), _, (by first | rfl | exact f11), ?_⟩
                    all_goals first | exact hF | (rw [hF]; simp; done) | (rw [hF]; have e0 : e.es.length = 0 := (by have := aC hb3c; omega); exact (bB e0).symm) | (rw [hF]; have e0 : ¬ e.es.length = 0 := (by have := aF hb3c; omega); exact (aN e0).symm)
                  try (cases hc25; done)
                  all_goals
                   refine aL ?_; try simp only [RR]
                   refine hKB2 _ _ ⟨(by repeat (first | exact agB2 | refine aW.upd rfl ?_)), (by first | exact eB2_b4 | (simp only [nb10_b4, nb4_b10, aG, seval]; first | done | exact eB2_b4)), (by first | exact eB2_b10 | (simp only [nb10_b4, nb4_b10, aG, seval]; first | done | exact eB2_b10)), _, (by first | rfl | exact f11), ?_⟩
                   all_goals first | exact hF | (rw [hF]; simp; done) | (rw [hF]; have e0 : e.es.length = 0 := (by have := aC hb3c; omega); exact (bB e0).symm) | (rw [hF]; have e0 : ¬ e.es.length = 0 := (by have := aF hb3c; omega); exact (aN e0).symm)
               try (cases hc24; done)
               all_goals
                refine aB fun K hK => ?_
                refine aA rfl ?_
                simp only [aD, hg, d1, d2, d3, d4, d5, d6, d7, d8, d9, ha0, ha1, ha2, ha3, ha4, zl, hb1c, hb2c, hb3c, hgF, hfl, RR, seval]
                refine hK _ _ ?_; clear hK K
                refine aP ?_; simp only [aV, aM, bE, f8, aD, hg, d1, d2, d3, d4, d5, d6, d7, d8, d9, ha0, ha1, ha2, ha3, ha4, zl, hb1c, hb2c, hb3c, hgF, hfl, RR, seval]
                refine aU.pure ?_
                first | exact hmk (.inl hF) | (exact hmk (.inr (.inl rfl))) | (exact hmk (.inl (by rw [hF]; simp only [Bool.or_self, Bool.false_and, Bool.and_false]))) | (exact hmk (.inr (.inr (.inl (by simpa using ‹(!a5) = true›))))) | (exact hmk (.inr (.inr (.inr (.inl (by simpa using ‹(!a6) = true›)))))) | (exact hmk (.inr (.inr (.inr (.inr (by simpa using hc27)))))) | (exact hmk (.inl (by rw [hfm]; exact aN (fun c => by have := ‹(!decide ((e.es.length : Int) = (nk : Int))) = true›; rw [c] at this; simp at this)))) | (rw [hkn0, List.take_length] at hk; rw [hk])
           try (cases hc18; done)
           all_goals
            refine aA rfl ?_
            simp only [f82, d5, RR, seval]
            refine aI _ rfl (fun hc19 => ?_) (fun hc19 => ?_)
            ·try (cases hc19; done)
             all_goals
              refine aL ?_; try simp only [RR]
              refine hKB2 _ _ ⟨(by repeat (first | exact agB2 | refine aW.upd rfl ?_)), (by first | exact eB2_b4 | (simp only [nb10_b4, nb4_b10, aG, seval]; first | done | exact eB2_b4)), (by first | exact eB2_b10 | (simp only [nb10_b4, nb4_b10, aG, seval]; first | done | exact eB2_b10)), _, (by first | rfl | exact f11), ?_⟩
              all_goals first | exact hF | (rw [hF]; simp; done) | (rw [hF]; have e0 : e.es.length = 0 := (by have := aC hb3c; omega); exact (bB e0).symm) | (rw [hF]; have e0 : ¬ e.es.length = 0 := (by have := aF hb3c; omega); exact (aN e0).symm)
            try (cases hc19; done)
            all_goals
             refine aB fun K hK => ?_
             refine aA rfl ?_
             simp only [f82, d6, RR, seval]
             refine hK _ _ ?_; clear hK K
             refine aI _ rfl (fun hc20 => ?_) (fun hc20 => ?_)
             ·try (cases hc20; done)
              all_goals
               refine aB fun K hK => ?_
               refine aA rfl ?_
               simp only [f10, hb10, aD, RR, seval]
               refine hK _ _ ?_; clear hK K
               refine aB fun K hK => ?_
               refine aA rfl ?_
               simp only [f1, f4, f10, hb4, hb10, RR, seval]
               refine aO (c3) ?_
               simp only [RR, seval]
               refine hK _ _ ?_; clear hK K
               refine aI _ rfl (fun hc22 => ?_) (fun hc22 => ?_)
               ·try (cases hc22; done)
                all_goals
                 refine aB fun K hK => ?_
                 refine aA rfl ?_
                 simp only [RR, seval]
                 refine hK _ _ ?_; clear hK K
                 refine aP ?_; simp only [aV, aM, bE, RR, seval]
                 refine aU.pure ?_
                 first | exact hmk (.inl hF) | (exact hmk (.inr (.inl rfl))) | (exact hmk (.inl (by rw [hF]; simp only [Bool.or_self, Bool.false_and, Bool.and_false]))) | (exact hmk (.inr (.inr (.inl (by simpa using ‹(!a5) = true›))))) | (exact hmk (.inr (.inr (.inr (.inl (by simpa using ‹(!a6) = true›)))))) | (exact hmk (.inr (.inr (.inr (.inr (by simpa using hc27)))))) | (exact hmk (.inl (by rw [hfm]; exact aN (fun c => by have := ‹(!decide ((e.es.length : Int) = (nk : Int))) = true›; rw [c] at this; simp at this)))) | (rw [hkn0, List.take_length] at hk; rw [hk])
               try (cases hc22; done)
               all_goals
                refine aL ?_; try simp only [RR]
                refine hKB2 _ _ ⟨(by repeat (first | exact agB2 | refine aW.upd rfl ?_)), (by first | exact eB2_b4 | (simp only [nb10_b4, nb4_b10, aG, seval]; first | done | exact eB2_b4)), (by first | exact eB2_b10 | (simp only [nb10_b4, nb4_b10, aG, seval]; first | done | exact eB2_b10)), _, (by first | rfl | exact f11), ?_⟩
                all_goals first | exact hF | (rw [hF]; simp; done) | (rw [hF]; have e0 : e.es.length = 0 := (by have := aC hb3c; omega); exact (bB e0).symm) | (rw [hF]; have e0 : ¬ e.es.length = 0 := (by have := aF hb3c; omega); exact (aN e0).symm)
             try (cases hc20; done)
             all_goals
              refine aB fun K hK => ?_
              refine aA rfl ?_
              simp only [f82, d7, RR, seval]
              refine hK _ _ ?_; clear hK K
              refine aI _ rfl (fun hc24 => ?_) (fun hc24 => ?_)
              ·try (cases hc24; done)
               all_goals
                refine aB fun K hK => ?_
                refine aA rfl ?_
                simp only [f1, f4, f10, hb4, hb10, aD, hb3c, hgF, RR, seval]
                repeat' ((first | refine aS (fun h => ?_) (fun h => ?_) | refine aT (fun h => ?_) (fun h => ?_)) <;> simp only [h, f1, f2, f3, f4, f8, f9, f10, f11, f82, hb4, hb10, nb10_b4, nb4_b10, aD, hg, d1, d2, d3, d4, d5, d6, d7, d8, d9, ha0, ha1, ha2, ha3, ha4, zl, hb1c, hb2c, hb3c, hgF, hfl, RR, seval])
                all_goals
                 refine hK _ _ ?_; clear hK K
                 refine aI _ rfl (fun hc25 => ?_) (fun hc25 => ?_)
                 ·try (cases hc25; done)
                  all_goals
                   refine aA rfl ?_
                   simp only [RR, seval]
                   refine hKB2 _ _ ⟨(by repeat (first | exact agB2 | refine aW.upd rfl ?_)), (by first | exact eB2_b4 | (simp only [nb10_b4, nb4_b10, aG, seval]; first | done | exact eB2_b4)), (by first | exact eB2_b10 | (simp only [nb10_b4, nb4_b10, aG, seval]; first | done | exact eB2_b10)), _, (by first | rfl | exact f11), ?_⟩
                   all_goals first | exact hF | (rw [hF]; simp; done) | (rw [hF]; have e0 : e.es.length = 0 := (by have := aC hb3c; omega); exact (bB e0).symm) | (rw [hF]; have e0 : ¬ e.es.length = 0 := (by have := aF hb3c; omega); exact (aN e0).symm)
                 try (cases hc25; done)
                 all_goals
                  refine aL ?_; try simp only [RR]
                  refine hKB2 _ _ ⟨(by repeat (first | exact agB2 | refine aW.upd rfl ?_)), (by first | exact eB2_b4 | (simp only [nb10_b4, nb4_b10, aG, seval]; first | done | exact eB2_b4)), (by first | exact eB2_b10 | (simp only [nb10_b4, nb4_b10, aG, seval]; first | done | exact eB2_b10)), _, (by first | rfl | exact f11), ?_⟩
                  all_goals first | exact hF | (rw [hF]; simp; done) | (rw [hF]; have e0 : e.es.length = 0 := (by have := aC hb3c; omega); exact (bB e0).symm) | (rw [hF]; have e0 : ¬ e.es.length = 0 := (by have := aF hb3c; omega); exact (aN e0).symm)
              try (cases hc24; done)
              all_goals
               refine aB fun K hK => ?_
               refine aA rfl ?_
               simp only [RR, seval]
               refine hK _ _ ?_; clear hK K
               refine aP ?_; simp only [aV, aM, bE, RR, seval]
               refine aU.pure ?_
               first | exact hmk (.inl hF) | (exact hmk (.inr (.inl rfl))) | (exact hmk (.inl (by rw [hF]; simp only [Bool.or_self, Bool.false_and, Bool.and_false]))) | (exact hmk (.inr (.inr (.inl (by simpa using ‹(!a5) = true›))))) | (exact hmk (.inr (.inr (.inr (.inl (by simpa using ‹(!a6) = true›)))))) | (exact hmk (.inr (.inr (.inr (.inr (by simpa using hc27)))))) | (exact hmk (.inl (by rw [hfm]; exact aN (fun c => by have := ‹(!decide ((e.es.length : Int) = (nk : Int))) = true›; rw [c] at this; simp at this)))) | (rw [hkn0, List.take_length] at hk; rw [hk])
       rintro F4 M4 ⟨agx, gb4, gb10, nk, f11, hfm⟩
       have f1 := (agx 1 rfl).trans f1
       have f2 := (agx 2 rfl).trans f2
       have f3 := (agx 3 rfl).trans f3
       have f4 := (agx 4 rfl).trans f4
       have f9 := (agx 9 rfl).trans f9
       have f10 := (agx 10 rfl).trans f10
       have f82 := (agx 82 rfl).trans f82
       have hb4 := gb4.trans hb4
       have hb10 := gb10.trans hb10
       have ag0 : aW [1, 2, 3, 4] F2 F4 := aW.sub agx rfl ag0
       have e0_b4 := gb4.trans e0_b4
       clear agx
       clear gb4
       clear gb10
       simp only [RR, seval]
       refine aB fun K hK => ?_
       refine aA rfl ?_
       simp only [f10, f11, hb10, aD, RR, seval]
       all_goals try ((first | refine aS (fun h => ?_) (fun h => ?_) | refine aT (fun h => ?_) (fun h => ?_)) <;> simp only [h, f1, f3, f4, f10, hb4, hb10, zl, RR, seval])
       all_goals try (refine aO (hke (by have := aF ha0; omega)) ?_; simp only [RR, seval])
       all_goals try ((first | refine aS (fun h => ?_) (fun h => ?_) | refine aT (fun h => ?_) (fun h => ?_)) <;> simp only [h, f1, f3, f4, f10, hb4, hb10, zl, RR, seval])
       all_goals try (refine aO (hkt (by have := aF ha0; omega)) ?_; simp only [RR, seval])
       all_goals try ((first | refine aS (fun h => ?_) (fun h => ?_) | refine aT (fun h => ?_) (fun h => ?_)) <;> simp only [h, f1, f3, f4, f10, hb4, hb10, zl, RR, seval])
       all_goals try (refine aO (hku (by have := aF ha0; omega)) ?_; simp only [RR, seval])
       all_goals
        refine hK _ _ ?_; clear hK K
        refine aI _ rfl (fun hc27 => ?_) (fun hc27 => ?_)
        ·try (cases hc27; done)
         all_goals
          refine aB fun K hK => ?_
          refine aA rfl ?_
          simp only [RR, seval]
          refine hK _ _ ?_; clear hK K
          refine aP ?_; simp only [aV, aM, bE, RR, seval]
          refine aU.pure ?_
          first | exact hmk (.inl hF) | (exact hmk (.inr (.inl rfl))) | (exact hmk (.inl (by rw [hF]; simp only [Bool.or_self, Bool.false_and, Bool.and_false]))) | (exact hmk (.inr (.inr (.inl (by simpa using ‹(!a5) = true›))))) | (exact hmk (.inr (.inr (.inr (.inl (by simpa using ‹(!a6) = true›)))))) | (exact hmk (.inr (.inr (.inr (.inr (by simpa using hc27)))))) | (exact hmk (.inl (by rw [hfm]; exact aN (fun c => by have := ‹(!decide ((e.es.length : Int) = (nk : Int))) = true›; rw [c] at this; simp at this)))) | (rw [hkn0, List.take_length] at hk; rw [hk])
        try (cases hc27; done)
        all_goals
         refine aL ?_; try simp only [RR]
         refine aA rfl ?_
         simp only [f9, RR, seval]
         try rw [aR _ (by omega)]
         refine hK0 _ _ hlt0 ⟨by first | rfl | (simp only [aG, seval]; rfl), (by first | exact e0_b4 | (simp only [nb10_b4, nb4_b10, aG, seval]; first | done | exact e0_b4)), htk (by rw [hfm, bB (by have := ‹(!decide ((e.es.length : Int) = (nk : Int))) = false›; simp at this; omega), (by simpa using ‹(!a5) = false› : a5 = true), (by simpa using ‹(!a6) = false› : a6 = true), (by simpa using hc27 : a7 = true)]; rfl)⟩ (by repeat (first | exact ag0 | refine aW.upd rfl ?_))
   have hkn0 : k = l.length := by have := aF hc; omega
   clear hc
   refine bH ?_; simp only [RR, seval]
   refine aB fun K hK => ?_
   refine aA rfl ?_
   simp only [RR, seval]
   refine hK _ _ ?_; clear hK K
   refine aP ?_; simp only [aV, aM, bE, RR, seval]
   refine aU.pure ?_
   first | exact hmk (.inl hF) | (exact hmk (.inr (.inl rfl))) | (exact hmk (.inl (by rw [hF]; simp only [Bool.or_self, Bool.false_and, Bool.and_false]))) | (exact hmk (.inr (.inr (.inl (by simpa using ‹(!a5) = true›))))) | (exact hmk (.inr (.inr (.inr (.inl (by simpa using ‹(!a6) = true›)))))) | (exact hmk (.inr (.inr (.inr (.inr (by simpa using hc27)))))) | (exact hmk (.inl (by rw [hfm]; exact aN (fun c => by have := ‹(!decide ((e.es.length : Int) = (nk : Int))) = true›; rw [c] at this; simp at this)))) | (rw [hkn0, List.take_length] at hk; rw [hk])
end Go.Proofs.YtnfbbjhdflhmjaaDoor
