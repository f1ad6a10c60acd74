/- Chapter 19, the judge's: may expressions be? -/
import Derived.Test.YtnfbbjhdflhmjaaDoorGLr
set_option linter.unusedSimpArgs false
set_option linter.unusedVariables false
set_option maxRecDepth 10000
namespace Go.Al
theorem Cb (k : Int) : ∃ q1 q2 q3 q4 q5 q6 q7 q8 q9 : Bool, (decide (k = 1) = q1 ∧ decide (k = 2) = q2 ∧ decide (k = 3) = q3 ∧ decide (k = 4) = q4 ∧ decide (k = 5) = q5 ∧ decide (k = 6) = q6 ∧ decide (k = 7) = q7 ∧ decide (k = 8) = q8 ∧ decide (k = 9) = q9) ∧
  (((q1 = true ∧ k = 1) ∧ q2 = false ∧ q3 = false ∧ q4 = false ∧ q5 = false ∧ q6 = false ∧ q7 = false ∧ q8 = false ∧ q9 = false) ∨ (q1 = false ∧ (q2 = true ∧ k = 2) ∧ q3 = false ∧ q4 = false ∧ q5 = false ∧ q6 = false ∧ q7 = false ∧ q8 = false ∧ q9 = false) ∨
  (q1 = false ∧ q2 = false ∧ (q3 = true ∧ k = 3) ∧ q4 = false ∧ q5 = false ∧ q6 = false ∧ q7 = false ∧ q8 = false ∧ q9 = false) ∨ (q1 = false ∧ q2 = false ∧ q3 = false ∧ (q4 = true ∧ k = 4) ∧ q5 = false ∧ q6 = false ∧ q7 = false ∧ q8 = false ∧ q9 = false) ∨
  (q1 = false ∧ q2 = false ∧ q3 = false ∧ q4 = false ∧ (q5 = true ∧ k = 5) ∧ q6 = false ∧ q7 = false ∧ q8 = false ∧ q9 = false) ∨ (q1 = false ∧ q2 = false ∧ q3 = false ∧ q4 = false ∧ q5 = false ∧ (q6 = true ∧ k = 6) ∧ q7 = false ∧ q8 = false ∧ q9 = false) ∨
  (q1 = false ∧ q2 = false ∧ q3 = false ∧ q4 = false ∧ q5 = false ∧ q6 = false ∧ (q7 = true ∧ k = 7) ∧ q8 = false ∧ q9 = false) ∨ (q1 = false ∧ q2 = false ∧ q3 = false ∧ q4 = false ∧ q5 = false ∧ q6 = false ∧ q7 = false ∧ (q8 = true ∧ k = 8) ∧ q9 = false) ∨
  (q1 = false ∧ q2 = false ∧ q3 = false ∧ q4 = false ∧ q5 = false ∧ q6 = false ∧ q7 = false ∧ q8 = false ∧ (q9 = true ∧ k = 9)) ∨ (q1 = false ∧ q2 = false ∧ q3 = false ∧ q4 = false ∧ q5 = false ∧ q6 = false ∧ q7 = false ∧ q8 = false ∧ q9 = false ∧ k ≠ 1 ∧ k ≠ 2 ∧ k ≠ 3 ∧ k ≠ 4 ∧ k ≠ 5 ∧ k ≠ 6 ∧ k ≠ 7 ∧ k ≠ 8 ∧ k ≠ 9)) := by
 by_cases h1 : k = 1
 ·subst h1; exact ⟨true, false, false, false, false, false, false, false, false, ⟨rfl, rfl, rfl, rfl, rfl, rfl, rfl, rfl, rfl⟩, .inl ⟨⟨rfl, rfl⟩, rfl, rfl, rfl, rfl, rfl, rfl, rfl, rfl⟩⟩
 by_cases h2 : k = 2
 ·subst h2; exact ⟨false, true, false, false, false, false, false, false, false, ⟨rfl, rfl, rfl, rfl, rfl, rfl, rfl, rfl, rfl⟩, .inr (.inl ⟨rfl, ⟨rfl, rfl⟩, rfl, rfl, rfl, rfl, rfl, rfl, rfl⟩)⟩
 by_cases h3 : k = 3
 ·subst h3; exact ⟨false, false, true, false, false, false, false, false, false, ⟨rfl, rfl, rfl, rfl, rfl, rfl, rfl, rfl, rfl⟩, .inr (.inr (.inl ⟨rfl, rfl, ⟨rfl, rfl⟩, rfl, rfl, rfl, rfl, rfl, rfl⟩))⟩
 by_cases h4 : k = 4
 ·subst h4; exact ⟨false, false, false, true, false, false, false, false, false, ⟨rfl, rfl, rfl, rfl, rfl, rfl, rfl, rfl, rfl⟩, .inr (.inr (.inr (.inl ⟨rfl, rfl, rfl, ⟨rfl, rfl⟩, rfl, rfl, rfl, rfl, rfl⟩)))⟩
 by_cases h5 : k = 5
 ·subst h5; exact ⟨false, false, false, false, true, false, false, false, false, ⟨rfl, rfl, rfl, rfl, rfl, rfl, rfl, rfl, rfl⟩, .inr (.inr (.inr (.inr (.inl ⟨rfl, rfl, rfl, rfl, ⟨rfl, rfl⟩, rfl, rfl, rfl, rfl⟩))))⟩
 by_cases h6 : k = 6
 ·subst h6; exact ⟨false, false, false, false, false, true, false, false, false, ⟨rfl, rfl, rfl, rfl, rfl, rfl, rfl, rfl, rfl⟩, .inr (.inr (.inr (.inr (.inr (.inl ⟨rfl, rfl, rfl, rfl, rfl, ⟨rfl, rfl⟩, rfl, rfl, rfl⟩)))))⟩
 by_cases h7 : k = 7
 ·subst h7; exact ⟨false, false, false, false, false, false, true, false, false, ⟨rfl, rfl, rfl, rfl, rfl, rfl, rfl, rfl, rfl⟩, .inr (.inr (.inr (.inr (.inr (.inr (.inl ⟨rfl, rfl, rfl, rfl, rfl, rfl, ⟨rfl, rfl⟩, rfl, rfl⟩))))))⟩
 by_cases h8 : k = 8
 ·subst h8; exact ⟨false, false, false, false, false, false, false, true, false, ⟨rfl, rfl, rfl, rfl, rfl, rfl, rfl, rfl, rfl⟩, .inr (.inr (.inr (.inr (.inr (.inr (.inr (.inl ⟨rfl, rfl, rfl, rfl, rfl, rfl, rfl, ⟨rfl, rfl⟩, rfl⟩)))))))⟩
 by_cases h9 : k = 9
 ·subst h9; exact ⟨false, false, false, false, false, false, false, false, true, ⟨rfl, rfl, rfl, rfl, rfl, rfl, rfl, rfl, rfl⟩, .inr (.inr (.inr (.inr (.inr (.inr (.inr (.inr (.inl ⟨rfl, rfl, rfl, rfl, rfl, rfl, rfl, rfl, ⟨rfl, rfl⟩⟩))))))))⟩
 exact ⟨false, false, false, false, false, false, false, false, false, ⟨aN h1, aN h2, aN h3, aN h4, aN h5, aN h6, aN h7, aN h8, aN h9⟩, .inr (.inr (.inr (.inr (.inr (.inr (.inr (.inr (.inr (⟨rfl, rfl, rfl, rfl, rfl, rfl, rfl, rfl, rfl, h1, h2, h3, h4, h5, h6, h7, h8, h9⟩)))))))))⟩
theorem B0 : ∀ (a0 a1 a2 a3 a4 q1 q2 q3 q4 q6 : Bool), (a0 = true ∨ (q1 = false ∧ a1 = false) ∨ (q6 = false ∧ a2 = false) ∨ (q3 = false ∧ a3 = false) ∨ (q2 = false ∧ q3 = false ∧ q4 = false ∧ a4 = false)) ∨ (a0 = false ∧ (q1 || a1) = true ∧ (q6 || a2) = true ∧ (q3 || a3) = true ∧ (q2 || q3 || q4 || a4) = true) := by
 intro a0 a1 a2 a3 a4 q1 q2 q3 q4 q6
 by_cases h0 : a0 = true
 ·exact .inl (.inl h0)
 by_cases h1 : (q1 || a1) = true
 rotate_left
 ·exact .inl (.inr (.inl (by simpa using h1)))
 by_cases h2 : (q6 || a2) = true
 rotate_left
 ·exact .inl (.inr (.inr (.inl (by simpa using h2))))
 by_cases h3 : (q3 || a3) = true
 rotate_left
 ·exact .inl (.inr (.inr (.inr (.inl (by simpa using h3)))))
 by_cases h4 : (q2 || q3 || q4 || a4) = true
 rotate_left
 ·exact .inl (.inr (.inr (.inr (.inr (by simpa [and_assoc] using h4)))))
 exact .inr ⟨by simpa using h0, h1, h2, h3, h4⟩
theorem nJ (w : Int) (B : List CF) (lv : Int) : ∀ l : List CE, eF w B l lv = l.all fun e => gK w B e lv
 | [] => by simp only [eF, List.all_nil]
 | e :: l => by simp only [eF, nJ w B lv l, List.all_cons]
theorem kO (w : Int) (B : List CF) (e : CE) (lv : Int) : gK w B e lv = (decide (lv ≤ 24) && nT w B e && eF w B e.kids (lv + 1)) := by
 cases e; rw [gK]; rfl
theorem qH {α : Type} {p : α → Bool} {l : List α} {k : Nat} {e : α} (h : l[k]? = some e) (hp : p e = false) : l.all p = false := by
 rw [List.all_eq_false]
 exact ⟨e, bN h, by rw [hp]; decide⟩
theorem pM {α : Type} {p : α → Bool} {l : List α} {k : Nat} {e : α} (h : l[k]? = some e) (hk : (l.take k).all p = true) (hp : p e = true) : (l.take (k + 1)).all p = true := by
 obtain ⟨h1, rfl⟩ := bM.1 h
 rw [bT h1, List.all_append, hk, List.all_cons, hp]; rfl
end Go.Al
namespace Go.Proofs.YtnfbbjhdflhmjaaDoor
open Go.Al
set_option maxHeartbeats 8000000 in
theorem Ff (w : Int) (hw : cX w) (cs : List CF) (f : Nat) (hf : f ≤ cs.length) (n : Nat) : ∀ (l : List CE) (lv : Int), dM l ≤ n → lS l → 0 ≤ lv → lv ≤ 1000 →
  dG cO 42 [.agg [.int .i64 w, .isl 5 (cs.map CF.row)], .int .i64 (f : Nat), .isl 6 (l.map CE.row), .int .i64 lv] (.bool (eF w (cs.take f) l lv)) := by
 induction n using Nat.strongRecOn with
 | _ n ih =>
   intro l lv hn ho hl1 hl2
   have hfit : l.length ≤ 9223372036854775807 := ho.fit
   have hcal := fun g m b => xI w cs f hf g m b
   generalize cs.take f = B at *
   have hwi := fun a m => qX w (cs.map CF.row) a m hw
   generalize cs.map CF.row = CR at *
   have zl : IntKind.wrap .i64 (lv + 1) = lv + 1 := by rw [aR _ (by omega)]
   rw [nJ]
   refine bD 147 [.tmp 8] Tryd.func42 rfl rfl rfl rfl ?_
   refine aB fun K hK => ?_
   refine aA rfl ?_
   simp only [RR, seval]
   refine aK fun b4 hn4 => ?_
   simp only [RR, seval]
   refine hK _ _ ?_; clear hK K
   refine aJ ?_
   refine aB fun K hK => ?_
   refine aA rfl ?_
   simp only [RR, seval]
   refine hK _ _ ?_; clear hK K
   refine bG fun F1 M1 hfr hH => ?_
   have g1 := hfr 1
   have g2 := hfr 2
   have g3 := hfr 3
   have g4 := hfr 4
   have g8 := hfr 8
   have g9 := hfr 9
   have gb4 := hH b4
   try simp only [RR, seval] at g1 g2 g3 g4 g8 g9 gb4
   have f1 := g1; clear g1
   have f2 := g2; clear g2
   have f3 := g3; clear g3
   have f4 := g4; clear g4
   have f8 := g8; clear g8
   have f9 := g9; clear g9
   have hb4 := gb4; clear gb4
   clear hfr hH
   refine aQ ?_
   refine bY [1, 2, 3, 4] (l.length) (fun k fr M => fr 9 = .int .i64 (k : Nat) ∧ M b4 = M1 b4 ∧ (l.take k).all (fun e => gK w B e lv) = true) ⟨f9, rfl, rfl⟩ ?_
   rintro k F2 M2 hk0 ⟨fx, gb4, hk⟩ agx K0 hK0
   have f1 := (agx 1 rfl).trans f1
   have f2 := (agx 2 rfl).trans f2
   have f3 := (agx 3 rfl).trans f3
   have f4 := (agx 4 rfl).trans f4
   have f9 := fx; clear fx
   have hb4 := gb4.trans hb4
   have ag0 := aW.refl [1, 2, 3, 4] F2
   have e0_b4 := gb4; clear gb4
   clear agx
   refine aJ ?_
   refine aB fun K hK => ?_
   refine aA rfl ?_
   simp only [f2, f9, aD, RR, seval]
   refine hK _ _ ?_; clear hK K
   refine aI _ rfl (fun hc => ?_) (fun hc => ?_)
   ·have hlt0 : k < l.length := by have := aC hc; omega
    clear hc
    have hg0 := aH hlt0
    have hm := jP (bA hlt0)
    have hoe := ho.all _ (bA hlt0)
    have hs := (l[k]).sz_eq
    have hg := jF hg0
    generalize l[k] = e at hg0 hm hoe hs hg
    have hkd := ih (dM e.kids) (by omega) e.kids (lv + 1) (aY _) hoe.kids (by omega)
    have hbad : gK w B e lv = false → AV.bool false = AV.bool (l.all fun e => gK w B e lv) := fun h1 => by rw [qH hg0 h1]
    have htk := pM hg0 hk
    rw [kO] at hbad htk
    have hF : nT w B e = ((decide (e.kind = 1) || decide (e.num = 0)) && (decide (e.kind = 6) || decide (e.op = 0)) && (decide (e.kind = 3) || decide (e.size = 0)) && (decide (e.kind = 2) || decide (e.kind = 3) || decide (e.kind = 4) || decide (e.slot = 0)) &&
     (if e.kind = 1 ∨ e.kind = 5 then decide (e.kids.length = 0) else if e.kind = 2 then cF w e.slot 1 && decide (e.kids.length = 0) else if e.kind = 3 then decide (1 ≤ e.size) && decide (e.size ≤ 4096) && cF w e.slot e.size && decide (e.kids.length = 1)
      else if e.kind = 4 then eT B e.slot e.kids.length true else if e.kind = 6 then decide (4 ≤ e.op) && decide (e.op ≤ 15) && decide (e.kids.length = 2) else if e.kind = 7 then decide (e.kids.length = 1) else if e.kind = 8 ∨ e.kind = 9 then decide (e.kids.length = 2) else false)) := rfl
    have c1 := hwi e.slot 1
    have c2 := hwi e.slot e.size
    have c3 := hcal e.slot e.kids.length true
    have hneg : ∀ {p q : Prop} [Decidable p] [Decidable q], (q ↔ ¬ p) → decide q = !decide p := fun h => by
     rename_i p q _ _
     by_cases hp : p
     ·rw [bB hp, aN (fun hq => (h.1 hq) hp)]; rfl
     rw [aN hp, bB (h.2 hp)]; rfl
    have n0 : decide (lv ≤ 24) = !decide (24 < lv) := hneg (by omega)
    have n1 : decide (1 ≤ e.size) = !decide (e.size < 1) := hneg (by omega)
    have n2 : decide (e.size ≤ 4096) = !decide (4096 < e.size) := hneg (by omega)
    have n3 : decide (4 ≤ e.op) = !decide (e.op < 4) := hneg (by omega)
    have n4 : decide (e.op ≤ 15) = !decide (15 < e.op) := hneg (by omega)
    rw [n1, n2, n3, n4] at hF
    rw [n0] at hbad htk
    clear hneg n0 n1 n2 n3 n4
    generalize cF w e.slot 1 = i1 at *
    generalize cF w e.slot e.size = i2 at *
    generalize eT B e.slot e.kids.length true = i3 at *
    obtain ⟨q1, q2, q3, q4, q5, q6, q7, q8, q9, ⟨d1, d2, d3, d4, d5, d6, d7, d8, d9⟩, hq⟩ := Cb e.kind
    generalize ha0 : decide (24 < lv) = a0 at *
    generalize ha1 : decide (e.num = 0) = a1 at *
    generalize ha2 : decide (e.op = 0) = a2 at *
    generalize ha3 : decide (e.size = 0) = a3 at *
    generalize ha4 : decide (e.slot = 0) = a4 at *
    generalize hb1c : decide (e.size < 1) = b1 at *
    generalize hb2c : decide (4096 < e.size) = b2 at *
    generalize hb3c : decide (e.op < 4) = b3 at *
    generalize hb4c : decide (15 < e.op) = b4' at *
    rw [d1, d2, d3, d4, d6] at hF
    generalize hfc : nT w B e = fc at *
    generalize eF w B e.kids (lv + 1) = a6 at *
    have hmk : (fc = false ∨ a0 = true ∨ a6 = false) → AV.bool false = AV.bool (l.all fun e => gK w B e lv) := fun h => hbad (by rcases h with h | h | h <;> rw [h] <;> simp only [Bool.not_true, Bool.false_and, Bool.and_false])
    rcases B0 a0 a1 a2 a3 a4 q1 q2 q3 q4 q6 with (rfl | ⟨rfl, rfl⟩ | ⟨rfl, rfl⟩ | ⟨rfl, rfl⟩ | ⟨rfl, rfl, rfl, rfl⟩) | ⟨rfl, p1, p2, p3, p4⟩
    rotate_left 5
    rcases hq with ⟨⟨rfl, hk1⟩, rfl, rfl, rfl, rfl, rfl, rfl, rfl, rfl⟩ | ⟨rfl, ⟨rfl, hk1⟩, rfl, rfl, rfl, rfl, rfl, rfl, rfl⟩ | ⟨rfl, rfl, ⟨rfl, hk1⟩, rfl, rfl, rfl, rfl, rfl, rfl⟩ | ⟨rfl, rfl, rfl, ⟨rfl, hk1⟩, rfl, rfl, rfl, rfl, rfl⟩ | ⟨rfl, rfl, rfl, rfl, ⟨rfl, hk1⟩, rfl, rfl, rfl, rfl⟩ | ⟨rfl, rfl, rfl, rfl, rfl, ⟨rfl, hk1⟩, rfl, rfl, rfl⟩ | ⟨rfl, rfl, rfl, rfl, rfl, rfl, ⟨rfl, hk1⟩, rfl, rfl⟩ | ⟨rfl, rfl, rfl, rfl, rfl, rfl, rfl, ⟨rfl, hk1⟩, rfl⟩ | ⟨rfl, rfl, rfl, rfl, rfl, rfl, rfl, rfl, ⟨rfl, hk1⟩⟩ | ⟨rfl, rfl, rfl, rfl, rfl, rfl, rfl, rfl, rfl, hk1⟩
    all_goals try (simp only [Bool.false_or] at p1)
    all_goals try (simp only [Bool.false_or] at p2)
    all_goals try (simp only [Bool.false_or] at p3)
    all_goals try (simp only [Bool.false_or, Bool.or_false] at p4)
    all_goals try subst p1
    all_goals try subst p2
    all_goals try subst p3
    all_goals try subst p4
    all_goals try (simp [hk1] at hF)
    all_goals try (have h2 : e.kind = 2 := hk1; clear h2; cases i1)
    all_goals try (have h2 : e.kind = 3 := hk1; clear h2; cases b1 <;> cases b2 <;> cases i2)
    all_goals try (have h2 : e.kind = 4 := hk1; clear h2; cases i3)
    all_goals try (have h2 : e.kind = 6 := hk1; clear h2; cases b3 <;> cases b4')
    all_goals try (simp only [Bool.true_and, Bool.false_and, Bool.not_true, Bool.not_false, Bool.and_true, Bool.and_false] at hF)
    all_goals
     refine aL ?_; try simp only [RR]
     refine aJ ?_
     refine aQ ?_
     refine aB fun K hK => ?_
     refine aA rfl ?_
     simp only [f2, f9, hg, RR, seval]
     refine aK fun b10 hn10 => ?_
     have nb10_b4 : b10 ≠ b4 := fun e => by rw [e] at hn10; simp only [hb4, seval, reduceCtorEq] at hn10
     have nb4_b10 : b4 ≠ b10 := fun e => nb10_b4 e.symm
     simp only [RR, seval]
     refine hK _ _ ?_; clear hK K
     refine aJ ?_
     refine aB fun K hK => ?_
     refine aA rfl ?_
     simp only [f3, d1, d2, d3, d4, d6, ha0, ha1, ha2, ha3, ha4, RR, seval]
     repeat' ((first | refine aS (fun h => ?_) (fun h => ?_) | refine aT (fun h => ?_) (fun h => ?_)) <;> simp only [h, d1, d2, d3, d4, d6, ha1, ha2, ha3, ha4, RR, seval])
     all_goals
      refine hK _ _ ?_; clear hK K
      refine aI _ rfl (fun hc5 => ?_) (fun hc5 => ?_)
      ·try (cases hc5; done)
       all_goals
        refine aB fun K hK => ?_
        refine aA rfl ?_
        simp only [RR, seval]
        refine hK _ _ ?_; clear hK K
        refine aP ?_; simp only [aV, aM, bE, RR, seval]
        refine aU.pure ?_
        first | exact hmk (.inl hF) | (exact hmk (.inr (.inl rfl))) | (exact hmk (.inl (by rw [hF]; simp only [Bool.or_self, Bool.false_and, Bool.and_false]))) | (exact hmk (.inr (.inr (by simpa using hc32)))) | (exact hmk (.inl (by rw [hfm]; exact aN (fun c => by rw [c] at h; simp at h)))) | (rw [hkn0, List.take_length] at hk; rw [hk])
      try (cases hc5; done)
      all_goals
       refine aL ?_; try simp only [RR]
       refine aB fun K hK => ?_
       refine aA rfl ?_
       simp only [RR, seval]
       refine hK _ _ ?_; clear hK K
       refine aJ ?_
       refine aB fun K hK => ?_
       refine aA rfl ?_
       simp only [RR, seval]
       refine hK _ _ ?_; clear hK K
       refine bG fun F3 M3 hfr hH => ?_
       have g1 := hfr 1
       have g2 := hfr 2
       have g3 := hfr 3
       have g4 := hfr 4
       have g8 := hfr 8
       have g9 := hfr 9
       have g10 := hfr 10
       have g11 := hfr 11
       have g75 := hfr 75
       have gb4 := hH b4
       have gb10 := hH b10
       try simp only [f1, f2, f3, f4, f9, hb4, nb4_b10, RR, seval] at g1 g2 g3 g4 g8 g9 g10 g11 g75 gb4 gb10
       have ag0 : aW [1, 2, 3, 4] F2 F3 := aW.same hfr (by repeat (first | exact ag0 | refine aW.upd rfl ?_))
       have e0_b4 := (hH b4).trans (by first | exact e0_b4 | (simp only [nb4_b10, aG, seval]; first | done | exact e0_b4))
       have f11 : F3 11 = .int .i64 ((0 : Nat) : Int) := (hfr 11).trans (by simp only [aG, RR, seval]; first | rfl | done)
       have f1 := g1; clear g1
       have f2 := g2; clear g2
       have f3 := g3; clear g3
       have f4 := g4; clear g4
       have f8 := g8; clear g8
       have f9 := g9; clear g9
       have f10 := g10; clear g10
       have f11 := g11; clear g11
       have f75 := g75; clear g75
       have hb4 := gb4; clear gb4
       have hb10 := gb10; clear gb10
       clear hfr hH
       refine dH (fun fr M => aW [1, 2, 3, 4, 9, 10, 75] F3 fr ∧ M b4 = M3 b4 ∧ M b10 = M3 b10 ∧ ∃ nk : Nat, fr 11 = .int .i64 (nk : Nat) ∧ fc = decide (e.kids.length = nk)) (fun KB2 hKB2 => ?_) ?_
       ·have agB2 := aW.refl [1, 2, 3, 4, 9, 10, 75] F3
        have eB2_b4 : M3 b4 = M3 b4 := rfl
        have eB2_b10 : M3 b10 = M3 b10 := rfl
        refine aQ ?_
        refine aJ ?_
        refine aB fun K hK => ?_
        refine aA rfl ?_
        simp only [f75, d1, RR, seval]
        refine hK _ _ ?_; clear hK K
        refine aI _ rfl (fun hc10 => ?_) (fun hc10 => ?_)
        ·try (cases hc10; done)
         all_goals
          refine aL ?_; try simp only [RR]
          refine aI _ rfl (fun hc10 => ?_) (fun hc10 => ?_)
          ·try (cases hc10; done)
           all_goals
            refine aL ?_; try simp only [RR]
            refine hKB2 _ _ ⟨(by repeat (first | exact agB2 | refine aW.upd rfl ?_)), (by first | exact eB2_b4 | (simp only [nb10_b4, nb4_b10, aG, seval]; first | done | exact eB2_b4)), (by first | exact eB2_b10 | (simp only [nb10_b4, nb4_b10, aG, seval]; first | done | exact eB2_b10)), _, (by first | rfl | exact f11), ?_⟩
            all_goals first | exact hF | (rw [hF]; simp; done)
          try (cases hc10; done)
          all_goals
           refine aB fun K hK => ?_
           refine aA rfl ?_
           simp only [f75, aD, hg, d1, d2, d3, d4, d5, d6, d7, d8, d9, ha0, ha1, ha2, ha3, ha4, zl, hb1c, hb2c, hb3c, hb4c, RR, seval]
           refine hK _ _ ?_; clear hK K
           refine aI _ rfl (fun hc12 => ?_) (fun hc12 => ?_)
           ·try (cases hc12; done)
            all_goals
             refine aB fun K hK => ?_
             refine aA rfl ?_
             simp only [f4, f10, hb4, hb10, nb10_b4, nb4_b10, aD, hg, d1, d2, d3, d4, d5, d6, d7, d8, d9, ha0, ha1, ha2, ha3, ha4, zl, hb1c, hb2c, hb3c, hb4c, RR, seval]
             refine aO (c1) ?_
             simp only [f4, f10, hb4, hb10, nb10_b4, nb4_b10, aD, hg, d1, d2, d3, d4, d5, d6, d7, d8, d9, ha0, ha1, ha2, ha3, ha4, zl, hb1c, hb2c, hb3c, hb4c, RR, seval]
             refine hK _ _ ?_; clear hK K
             refine aI _ rfl (fun hc13 => ?_) (fun hc13 => ?_)
             ·try (cases hc13; done)
              all_goals
               refine aB fun K hK => ?_
               refine aA rfl ?_
               simp only [aD, hg, d1, d2, d3, d4, d5, d6, d7, d8, d9, ha0, ha1, ha2, ha3, ha4, zl, hb1c, hb2c, hb3c, hb4c, RR, seval]
               refine hK _ _ ?_; clear hK K
               refine aP ?_; simp only [aV, aM, bE, f8, aD, hg, d1, d2, d3, d4, d5, d6, d7, d8, d9, ha0, ha1, ha2, ha3, ha4, zl, hb1c, hb2c, hb3c, hb4c, RR, seval]
               refine aU.pure ?_
               first | exact hmk (.inl hF) | (exact hmk (.inr (.inl rfl))) | (exact hmk (.inl (by rw [hF]; simp only [Bool.or_self, Bool.false_and, Bool.and_false]))) | (exact hmk (.inr (.inr (by simpa using hc32)))) | (exact hmk (.inl (by rw [hfm]; exact aN (fun c => by rw [c] at h; simp at h)))) | (rw [hkn0, List.take_length] at hk; rw [hk])
             try (cases hc13; done)
             all_goals
              refine aL ?_; try simp only [RR]
              refine hKB2 _ _ ⟨(by repeat (first | exact agB2 | refine aW.upd rfl ?_)), (by first | exact eB2_b4 | (simp only [nb10_b4, nb4_b10, aG, seval]; first | done | exact eB2_b4)), (by first | exact eB2_b10 | (simp only [nb10_b4, nb4_b10, aG, seval]; first | done | exact eB2_b10)), _, (by first | rfl | exact f11), ?_⟩
              all_goals first | exact hF | (rw [hF]; simp; done)
           try (cases hc12; done)
           all_goals
            refine aB fun K hK => ?_
            refine aA rfl ?_
            simp only [f75, aD, hg, d1, d2, d3, d4, d5, d6, d7, d8, d9, ha0, ha1, ha2, ha3, ha4, zl, hb1c, hb2c, hb3c, hb4c, RR, seval]
            refine hK _ _ ?_; clear hK K
            refine aI _ rfl (fun hc15 => ?_) (fun hc15 => ?_)
            ·try (cases hc15; done)
             all_goals
              refine aB fun K hK => ?_
              refine aA rfl ?_
              simp only [aD, hg, d1, d2, d3, d4, d5, d6, d7, d8, d9, ha0, ha1, ha2, ha3, ha4, zl, hb1c, hb2c, hb3c, hb4c, RR, seval]
              refine hK _ _ ?_; clear hK K
              refine aB fun K hK => ?_
              refine aA rfl ?_
              simp only [f4, f10, hb4, hb10, nb10_b4, nb4_b10, aD, hg, d1, d2, d3, d4, d5, d6, d7, d8, d9, ha0, ha1, ha2, ha3, ha4, zl, hb1c, hb2c, hb3c, hb4c, RR, seval]
              all_goals try ((first | refine aS (fun h => ?_) (fun h => ?_) | refine aT (fun h => ?_) (fun h => ?_)) <;> simp only [h, f1, f2, f3, f4, f8, f9, f10, f11, f75, hb4, hb10, nb10_b4, nb4_b10, aD, hg, d1, d2, d3, d4, d5, d6, d7, d8, d9, ha0, ha1, ha2, ha3, ha4, zl, hb1c, hb2c, hb3c, hb4c, RR, seval])
              all_goals try ((first | refine aS (fun h => ?_) (fun h => ?_) | refine aT (fun h => ?_) (fun h => ?_)) <;> simp only [h, f1, f2, f3, f4, f8, f9, f10, f11, f75, hb4, hb10, nb10_b4, nb4_b10, aD, hg, d1, d2, d3, d4, d5, d6, d7, d8, d9, ha0, ha1, ha2, ha3, ha4, zl, hb1c, hb2c, hb3c, hb4c, RR, seval])
              all_goals try (refine aO (c2) ?_; simp only [f4, f10, hb4, hb10, nb10_b4, nb4_b10, aD, hg, d1, d2, d3, d4, d5, d6, d7, d8, d9, ha0, ha1, ha2, ha3, ha4, zl, hb1c, hb2c, hb3c, hb4c, RR, seval])
              all_goals
               refine hK _ _ ?_; clear hK K
               refine aI _ rfl (fun hc17 => ?_) (fun hc17 => ?_)
               ·try (cases hc17; done)
                all_goals
                 refine aB fun K hK => ?_
                 refine aA rfl ?_
                 simp only [aD, hg, d1, d2, d3, d4, d5, d6, d7, d8, d9, ha0, ha1, ha2, ha3, ha4, zl, hb1c, hb2c, hb3c, hb4c, RR, seval]
                 refine hK _ _ ?_; clear hK K
                 refine aP ?_; simp only [aV, aM, bE, f8, aD, hg, d1, d2, d3, d4, d5, d6, d7, d8, d9, ha0, ha1, ha2, ha3, ha4, zl, hb1c, hb2c, hb3c, hb4c, RR, seval]
                 refine aU.pure ?_
                 first | exact hmk (.inl hF) | (exact hmk (.inr (.inl rfl))) | (exact hmk (.inl (by rw [hF]; simp only [Bool.or_self, Bool.false_and, Bool.and_false]))) | (exact hmk (.inr (.inr (by simpa using hc32)))) | (exact hmk (.inl (by rw [hfm]; exact aN (fun c => by rw [c] at h; simp at h)))) | (rw [hkn0, List.take_length] at hk; rw [hk])
               try (cases hc17; done)
               all_goals
                refine aL ?_; try simp only [RR]
                refine hKB2 _ _ ⟨(by repeat (first | exact agB2 | refine aW.upd rfl ?_)), (by first | exact eB2_b4 | (simp only [nb10_b4, nb4_b10, aG, seval]; first | done | exact eB2_b4)), (by first | exact eB2_b10 | (simp only [nb10_b4, nb4_b10, aG, seval]; first | done | exact eB2_b10)), _, (by first | rfl | exact f11), ?_⟩
                all_goals first | exact hF | (rw [hF]; simp; done)
            try (cases hc15; done)
            all_goals
             refine aB fun K hK => ?_
             refine aA rfl ?_
             simp only [f75, aD, hg, d1, d2, d3, d4, d5, d6, d7, d8, d9, ha0, ha1, ha2, ha3, ha4, zl, hb1c, hb2c, hb3c, hb4c, RR, seval]
             refine hK _ _ ?_; clear hK K
             refine aI _ rfl (fun hc19 => ?_) (fun hc19 => ?_)
             ·try (cases hc19; done)
              all_goals
               refine aB fun K hK => ?_
               refine aA rfl ?_
               simp only [f10, hb4, hb10, nb10_b4, nb4_b10, aD, hg, d1, d2, d3, d4, d5, d6, d7, d8, d9, ha0, ha1, ha2, ha3, ha4, zl, hb1c, hb2c, hb3c, hb4c, RR, seval]
               refine hK _ _ ?_; clear hK K
               refine aB fun K hK => ?_
               refine aA rfl ?_
               simp only [f1, f4, f10, f11, hb4, hb10, nb10_b4, nb4_b10, aD, hg, d1, d2, d3, d4, d5, d6, d7, d8, d9, ha0, ha1, ha2, ha3, ha4, zl, hb1c, hb2c, hb3c, hb4c, RR, seval]
               refine aO (c3) ?_
               simp only [f1, f4, f10, f11, hb4, hb10, nb10_b4, nb4_b10, aD, hg, d1, d2, d3, d4, d5, d6, d7, d8, d9, ha0, ha1, ha2, ha3, ha4, zl, hb1c, hb2c, hb3c, hb4c, RR, seval]
               refine hK _ _ ?_; clear hK K
               refine aI _ rfl (fun hc21 => ?_) (fun hc21 => ?_)
               ·try (cases hc21; done)
                all_goals
                 refine aB fun K hK => ?_
                 refine aA rfl ?_
                 simp only [aD, hg, d1, d2, d3, d4, d5, d6, d7, d8, d9, ha0, ha1, ha2, ha3, ha4, zl, hb1c, hb2c, hb3c, hb4c, RR, seval]
                 refine hK _ _ ?_; clear hK K
                 refine aP ?_; simp only [aV, aM, bE, f8, aD, hg, d1, d2, d3, d4, d5, d6, d7, d8, d9, ha0, ha1, ha2, ha3, ha4, zl, hb1c, hb2c, hb3c, hb4c, RR, seval]
                 refine aU.pure ?_
                 first | exact hmk (.inl hF) | (exact hmk (.inr (.inl rfl))) | (exact hmk (.inl (by rw [hF]; simp only [Bool.or_self, Bool.false_and, Bool.and_false]))) | (exact hmk (.inr (.inr (by simpa using hc32)))) | (exact hmk (.inl (by rw [hfm]; exact aN (fun c => by rw [c] at h; simp at h)))) | (rw [hkn0, List.take_length] at hk; rw [hk])
               try (cases hc21; done)
               all_goals
                refine aL ?_; try simp only [RR]
                refine hKB2 _ _ ⟨(by repeat (first | exact agB2 | refine aW.upd rfl ?_)), (by first | exact eB2_b4 | (simp only [nb10_b4, nb4_b10, aG, seval]; first | done | exact eB2_b4)), (by first | exact eB2_b10 | (simp only [nb10_b4, nb4_b10, aG, seval]; first | done | exact eB2_b10)), _, (by first | rfl | exact f11), ?_⟩
                all_goals first | exact hF | (rw [hF]; simp; done)
             try (cases hc19; done)
             all_goals
              refine aB fun K hK => ?_
              refine aA rfl ?_
              simp only [f75, aD, hg, d1, d2, d3, d4, d5, d6, d7, d8, d9, ha0, ha1, ha2, ha3, ha4, zl, hb1c, hb2c, hb3c, hb4c, RR, seval]
              refine hK _ _ ?_; clear hK K
              refine aI _ rfl (fun hc23 => ?_) (fun hc23 => ?_)
              ·try (cases hc23; done)
               all_goals
                refine aB fun K hK => ?_
                refine aA rfl ?_
                simp only [aD, hg, d1, d2, d3, d4, d5, d6, d7, d8, d9, ha0, ha1, ha2, ha3, ha4, zl, hb1c, hb2c, hb3c, hb4c, RR, seval]
                refine hK _ _ ?_; clear hK K
                refine aB fun K hK => ?_
                refine aA rfl ?_
                simp only [f10, hb4, hb10, nb10_b4, nb4_b10, aD, hg, d1, d2, d3, d4, d5, d6, d7, d8, d9, ha0, ha1, ha2, ha3, ha4, zl, hb1c, hb2c, hb3c, hb4c, RR, seval]
                repeat' ((first | refine aS (fun h => ?_) (fun h => ?_) | refine aT (fun h => ?_) (fun h => ?_)) <;> simp only [h, f1, f2, f3, f4, f8, f9, f10, f11, f75, hb4, hb10, nb10_b4, nb4_b10, aD, hg, d1, d2, d3, d4, d5, d6, d7, d8, d9, ha0, ha1, ha2, ha3, ha4, zl, hb1c, hb2c, hb3c, hb4c, RR, seval])
                all_goals
                 refine hK _ _ ?_; clear hK K
                 refine aI _ rfl (fun hc25 => ?_) (fun hc25 => ?_)
                 ·try (cases hc25; done)
                  all_goals
                   refine aB fun K hK => ?_
                   refine aA rfl ?_
                   simp only [aD, hg, d1, d2, d3, d4, d5, d6, d7, d8, d9, ha0, ha1, ha2, ha3, ha4, zl, hb1c, hb2c, hb3c, hb4c, RR, seval]
                   refine hK _ _ ?_; clear hK K
                   refine aP ?_; simp only [aV, aM, bE, f8, aD, hg, d1, d2, d3, d4, d5, d6, d7, d8, d9, ha0, ha1, ha2, ha3, ha4, zl, hb1c, hb2c, hb3c, hb4c, RR, seval]
                   refine aU.pure ?_
                   first | exact hmk (.inl hF) | (exact hmk (.inr (.inl rfl))) | (exact hmk (.inl (by rw [hF]; simp only [Bool.or_self, Bool.false_and, Bool.and_false]))) | (exact hmk (.inr (.inr (by simpa using hc32)))) | (exact hmk (.inl (by rw [hfm]; exact aN (fun c => by rw [c] at h; simp at h)))) | (rw [hkn0, List.take_length] at hk; rw [hk])
                 try (cases hc25; done)
                 all_goals
                  refine aL ?_; try simp only [RR]
                  refine hKB2 _ _ ⟨(by repeat (first | exact agB2 | refine aW.upd rfl ?_)), (by first | exact eB2_b4 | (simp only [nb10_b4, nb4_b10, aG, seval]; first | done | exact eB2_b4)), (by first | exact eB2_b10 | (simp only [nb10_b4, nb4_b10, aG, seval]; first | done | exact eB2_b10)), _, (by first | rfl | exact f11), ?_⟩
                  all_goals first | exact hF | (rw [hF]; simp; done)
              try (cases hc23; done)
              all_goals
               refine aB fun K hK => ?_
               refine aA rfl ?_
               simp only [f75, aD, hg, d1, d2, d3, d4, d5, d6, d7, d8, d9, ha0, ha1, ha2, ha3, ha4, zl, hb1c, hb2c, hb3c, hb4c, RR, seval]
               refine hK _ _ ?_; clear hK K
               refine aI _ rfl (fun hc27 => ?_) (fun hc27 => ?_)
               ·try (cases hc27; done)
                all_goals
                 refine aA rfl ?_
                 simp only [aD, hg, d1, d2, d3, d4, d5, d6, d7, d8, d9, ha0, ha1, ha2, ha3, ha4, zl, hb1c, hb2c, hb3c, hb4c, RR, seval]
                 refine hKB2 _ _ ⟨(by repeat (first | exact agB2 | refine aW.upd rfl ?_)), (by first | exact eB2_b4 | (simp only [nb10_b4, nb4_b10, aG, seval]; first | done | exact eB2_b4)), (by first | exact eB2_b10 | (simp only [nb10_b4, nb4_b10, aG, seval]; first | done | exact eB2_b10)), _, (by first | rfl | exact f11), ?_⟩
                 all_goals first | exact hF | (rw [hF]; simp; done)
               try (cases hc27; done)
               all_goals
                refine aJ ?_
                refine aB fun K hK => ?_
                refine aA rfl ?_
                simp only [f75, aD, hg, d1, d2, d3, d4, d5, d6, d7, d8, d9, ha0, ha1, ha2, ha3, ha4, zl, hb1c, hb2c, hb3c, hb4c, RR, seval]
                refine hK _ _ ?_; clear hK K
                refine aI _ rfl (fun hc29 => ?_) (fun hc29 => ?_)
                ·try (cases hc29; done)
                 all_goals
                  refine aL ?_; try simp only [RR]
                  refine aI _ rfl (fun hc29 => ?_) (fun hc29 => ?_)
                  ·try (cases hc29; done)
                   all_goals
                    refine aA rfl ?_
                    simp only [aD, hg, d1, d2, d3, d4, d5, d6, d7, d8, d9, ha0, ha1, ha2, ha3, ha4, zl, hb1c, hb2c, hb3c, hb4c, RR, seval]
                    refine hKB2 _ _ ⟨(by repeat (first | exact agB2 | refine aW.upd rfl ?_)), (by first | exact eB2_b4 | (simp only [nb10_b4, nb4_b10, aG, seval]; first | done | exact eB2_b4)), (by first | exact eB2_b10 | (simp only [nb10_b4, nb4_b10, aG, seval]; first | done | exact eB2_b10)), _, (by first | rfl | exact f11), ?_⟩
                    all_goals first | exact hF | (rw [hF]; simp; done)
                  try (cases hc29; done)
                  all_goals
                   refine aB fun K hK => ?_
                   refine aA rfl ?_
                   simp only [aD, hg, d1, d2, d3, d4, d5, d6, d7, d8, d9, ha0, ha1, ha2, ha3, ha4, zl, hb1c, hb2c, hb3c, hb4c, RR, seval]
                   refine hK _ _ ?_; clear hK K
                   refine aP ?_; simp only [aV, aM, bE, f8, aD, hg, d1, d2, d3, d4, d5, d6, d7, d8, d9, ha0, ha1, ha2, ha3, ha4, zl, hb1c, hb2c, hb3c, hb4c, RR, seval]
                   refine aU.pure ?_
                   first | exact hmk (.inl hF) | (exact hmk (.inr (.inl rfl))) | (exact hmk (.inl (by rw [hF]; simp only [Bool.or_self, Bool.false_and, Bool.and_false]))) | (exact hmk (.inr (.inr (by simpa using hc32)))) | (exact hmk (.inl (by rw [hfm]; exact aN (fun c => by rw [c] at h; simp at h)))) | (rw [hkn0, List.take_length] at hk; rw [hk])
                try (cases hc29; done)
                all_goals
                 refine aA rfl ?_
                 simp only [f75, aD, hg, d1, d2, d3, d4, d5, d6, d7, d8, d9, ha0, ha1, ha2, ha3, ha4, zl, hb1c, hb2c, hb3c, hb4c, RR, seval]
                 refine aI _ rfl (fun hc30 => ?_) (fun hc30 => ?_)
                 ·try (cases hc30; done)
                  all_goals
                   refine aA rfl ?_
                   simp only [aD, hg, d1, d2, d3, d4, d5, d6, d7, d8, d9, ha0, ha1, ha2, ha3, ha4, zl, hb1c, hb2c, hb3c, hb4c, RR, seval]
                   refine hKB2 _ _ ⟨(by repeat (first | exact agB2 | refine aW.upd rfl ?_)), (by first | exact eB2_b4 | (simp only [nb10_b4, nb4_b10, aG, seval]; first | done | exact eB2_b4)), (by first | exact eB2_b10 | (simp only [nb10_b4, nb4_b10, aG, seval]; first | done | exact eB2_b10)), _, (by first | rfl | exact f11), ?_⟩
                   all_goals first | exact hF | (rw [hF]; simp; done)
                 try (cases hc30; done)
                 all_goals
                  refine aB fun K hK => ?_
                  refine aA rfl ?_
                  simp only [aD, hg, d1, d2, d3, d4, d5, d6, d7, d8, d9, ha0, ha1, ha2, ha3, ha4, zl, hb1c, hb2c, hb3c, hb4c, RR, seval]
                  refine hK _ _ ?_; clear hK K
                  refine aP ?_; simp only [aV, aM, bE, f8, aD, hg, d1, d2, d3, d4, d5, d6, d7, d8, d9, ha0, ha1, ha2, ha3, ha4, zl, hb1c, hb2c, hb3c, hb4c, RR, seval]
                  refine aU.pure ?_
                  first | exact hmk (.inl hF) | (exact hmk (.inr (.inl rfl))) | (exact hmk (.inl (by rw [hF]; simp only [Bool.or_self, Bool.false_and, Bool.and_false]))) | (exact hmk (.inr (.inr (by simpa using hc32)))) | (exact hmk (.inl (by rw [hfm]; exact aN (fun c => by rw [c] at h; simp at h)))) | (rw [hkn0, List.take_length] at hk; rw [hk])
        try (cases hc10; done)
        all_goals
         refine aA rfl ?_
         simp only [f75, d5, RR, seval]
         refine aI _ rfl (fun hc11 => ?_) (fun hc11 => ?_)
         ·try (cases hc11; done)
          all_goals
           refine aL ?_; try simp only [RR]
           refine hKB2 _ _ ⟨(by repeat (first | exact agB2 | refine aW.upd rfl ?_)), (by first | exact eB2_b4 | (simp only [nb10_b4, nb4_b10, aG, seval]; first | done | exact eB2_b4)), (by first | exact eB2_b10 | (simp only [nb10_b4, nb4_b10, aG, seval]; first | done | exact eB2_b10)), _, (by first | rfl | exact f11), ?_⟩
           all_goals first | exact hF | (rw [hF]; simp; done)
         try (cases hc11; done)
         all_goals
          refine aB fun K hK => ?_
          refine aA rfl ?_
          simp only [f75, d2, RR, seval]
          refine hK _ _ ?_; clear hK K
          refine aI _ rfl (fun hc12 => ?_) (fun hc12 => ?_)
          ·try (cases hc12; done)
           all_goals
            refine aB fun K hK => ?_
            refine aA rfl ?_
            simp only [f4, f10, hb4, hb10, RR, seval]
            refine aO (c1) ?_
            simp only [RR, seval]
            refine hK _ _ ?_; clear hK K
            refine aI _ rfl (fun hc13 => ?_) (fun hc13 => ?_)
            ·try (cases hc13; done)
             all_goals
              refine aB fun K hK => ?_
              refine aA rfl ?_
              simp only [RR, seval]
              refine hK _ _ ?_; clear hK K
              refine aP ?_; simp only [aV, aM, bE, RR, seval]
              refine aU.pure ?_
              first | exact hmk (.inl hF) | (exact hmk (.inr (.inl rfl))) | (exact hmk (.inl (by rw [hF]; simp only [Bool.or_self, Bool.false_and, Bool.and_false]))) | (exact hmk (.inr (.inr (by simpa using hc32)))) | (exact hmk (.inl (by rw [hfm]; exact aN (fun c => by rw [c] at h; simp at h)))) | (rw [hkn0, List.take_length] at hk; rw [hk])
            try (cases hc13; done)
            all_goals
             refine aL ?_; try simp only [RR]
             refine hKB2 _ _ ⟨(by repeat (first | exact agB2 | refine aW.upd rfl ?_)), (by first | exact eB2_b4 | (simp only [nb10_b4, nb4_b10, aG, seval]; first | done | exact eB2_b4)), (by first | exact eB2_b10 | (simp only [nb10_b4, nb4_b10, aG, seval]; first | done | exact eB2_b10)), _, (by first | rfl | exact f11), ?_⟩
             all_goals first | exact hF | (rw [hF]; simp; done)
          try (cases hc12; done)
          all_goals
           refine aB fun K hK => ?_
           refine aA rfl ?_
           simp only [f75, d3, RR, seval]
           refine hK _ _ ?_; clear hK K
           refine aI _ rfl (fun hc15 => ?_) (fun hc15 => ?_)
           ·try (cases hc15; done)
            all_goals
             refine aB fun K hK => ?_
             refine aA rfl ?_
             simp only [RR, seval]
             refine hK _ _ ?_; clear hK K
             refine aB fun K hK => ?_
             refine aA rfl ?_
             simp only [f4, f10, hb4, hb10, hb1c, hb2c, RR, seval]
             all_goals try ((first | refine aS (fun h => ?_) (fun h => ?_) | refine aT (fun h => ?_) (fun h => ?_)) <;> simp only [h, f1, f2, f3, f4, f8, f9, f10, f11, f75, hb4, hb10, nb10_b4, nb4_b10, aD, hg, d1, d2, d3, d4, d5, d6, d7, d8, d9, ha0, ha1, ha2, ha3, ha4, zl, hb1c, hb2c, hb3c, hb4c, RR, seval])
             all_goals try ((first | refine aS (fun h => ?_) (fun h => ?_) | refine aT (fun h => ?_) (fun h => ?_)) <;> simp only [h, f1, f2, f3, f4, f8, f9, f10, f11, f75, hb4, hb10, nb10_b4, nb4_b10, aD, hg, d1, d2, d3, d4, d5, d6, d7, d8, d9, ha0, ha1, ha2, ha3, ha4, zl, hb1c, hb2c, hb3c, hb4c, RR, seval])
             all_goals try (refine aO (c2) ?_; simp only [RR, seval])
             all_goals
              refine hK _ _ ?_; clear hK K
              refine aI _ rfl (fun hc17 => ?_) (fun hc17 => ?_)
              ·try (cases hc17; done)
               all_goals
                refine aB fun K hK => ?_
                refine aA rfl ?_
                simp only [RR, seval]
                refine hK _ _ ?_; clear hK K
                refine aP ?_; simp only [aV, aM, bE, RR, seval]
                refine aU.pure ?_
                first | exact hmk (.inl hF) | (exact hmk (.inr (.inl rfl))) | (exact hmk (.inl (by rw [hF]; simp only [Bool.or_self, Bool.false_and, Bool.and_false]))) | (exact hmk (.inr (.inr (by simpa using hc32)))) | (exact hmk (.inl (by rw [hfm]; exact aN (fun c => by rw [c] at h; simp at h)))) | (rw [hkn0, List.take_length] at hk; rw [hk])
              try (cases hc17; done)
              all_goals
               refine aL ?_; try simp only [RR]
               refine hKB2 _ _ ⟨(by repeat (first | exact agB2 | refine aW.upd rfl ?_)), (by first | exact eB2_b4 | (simp only [nb10_b4, nb4_b10, aG, seval]; first | done | exact eB2_b4)), (by first | exact eB2_b10 | (simp only [nb10_b4, nb4_b10, aG, seval]; first | done | exact eB2_b10)), _, (by first | rfl | exact f11), ?_⟩
               all_goals first | exact hF | (rw [hF]; simp; done)
           try (cases hc15; done)
           all_goals
            refine aB fun K hK => ?_
            refine aA rfl ?_
            simp only [f75, d4, RR, seval]
            refine hK _ _ ?_; clear hK K
            refine aI _ rfl (fun hc19 => ?_) (fun hc19 => ?_)
            ·try (cases hc19; done)
             all_goals
              refine aB fun K hK => ?_
              refine aA rfl ?_
              simp only [f10, hb10, aD, RR, seval]
              refine hK _ _ ?_; clear hK K
              refine aB fun K hK => ?_
              refine aA rfl ?_
              simp only [f1, f4, f10, hb4, hb10, RR, seval]
              refine aO (c3) ?_
              simp only [RR, seval]
              refine hK _ _ ?_; clear hK K
              refine aI _ rfl (fun hc21 => ?_) (fun hc21 => ?_)
              ·try (cases hc21; done)
               all_goals
                refine aB fun K hK => ?_
                refine aA rfl ?_
                simp only [RR, seval]
                refine hK _ _ ?_; clear hK K
                refine aP ?_; simp only [aV, aM, bE, RR, seval]
                refine aU.pure ?_
                first | exact hmk (.inl hF) | (exact hmk (.inr (.inl rfl))) | (exact hmk (.inl (by rw [hF]; simp only [Bool.or_self, Bool.false_and, Bool.and_false]))) | (exact hmk (.inr (.inr (by simpa using hc32)))) | (exact hmk (.inl (by rw [hfm]; exact aN (fun c => by rw [c] at h; simp at h)))) | (rw [hkn0, List.take_length] at hk; rw [hk])
              try (cases hc21; done)
              all_goals
               refine aL ?_; try simp only [RR]
               refine hKB2 _ _ ⟨(by repeat (first | exact agB2 | refine aW.upd rfl ?_)), (by first | exact eB2_b4 | (simp only [nb10_b4, nb4_b10, aG, seval]; first | done | exact eB2_b4)), (by first | exact eB2_b10 | (simp only [nb10_b4, nb4_b10, aG, seval]; first | done | exact eB2_b10)), _, (by first | rfl | exact f11), ?_⟩
               all_goals first | exact hF | (rw [hF]; simp; done)
            try (cases hc19; done)
            all_goals
             refine aB fun K hK => ?_
             refine aA rfl ?_
             simp only [f75, d6, RR, seval]
             refine hK _ _ ?_; clear hK K
             refine aI _ rfl (fun hc23 => ?_) (fun hc23 => ?_)
             ·try (cases hc23; done)
              all_goals
               refine aB fun K hK => ?_
               refine aA rfl ?_
               simp only [RR, seval]
               refine hK _ _ ?_; clear hK K
               refine aB fun K hK => ?_
               refine aA rfl ?_
               simp only [f10, hb10, hb3c, hb4c, RR, seval]
               repeat' ((first | refine aS (fun h => ?_) (fun h => ?_) | refine aT (fun h => ?_) (fun h => ?_)) <;> simp only [h, f1, f2, f3, f4, f8, f9, f10, f11, f75, hb4, hb10, nb10_b4, nb4_b10, aD, hg, d1, d2, d3, d4, d5, d6, d7, d8, d9, ha0, ha1, ha2, ha3, ha4, zl, hb1c, hb2c, hb3c, hb4c, RR, seval])
               all_goals
                refine hK _ _ ?_; clear hK K
                refine aI _ rfl (fun hc25 => ?_) (fun hc25 => ?_)
                ·try (cases hc25; done)
                 all_goals
                  refine aB fun K hK => ?_
                  refine aA rfl ?_
                  simp only [RR, seval]
                  refine hK _ _ ?_; clear hK K
                  refine aP ?_; simp only [aV, aM, bE, RR, seval]
                  refine aU.pure ?_
                  first | exact hmk (.inl hF) | (exact hmk (.inr (.inl rfl))) | (exact hmk (.inl (by rw [hF]; simp only [Bool.or_self, Bool.false_and, Bool.and_false]))) | (exact hmk (.inr (.inr (by simpa using hc32)))) | (exact hmk (.inl (by rw [hfm]; exact aN (fun c => by rw [c] at h; simp at h)))) | (rw [hkn0, List.take_length] at hk; rw [hk])
                try (cases hc25; done)
                all_goals
                 refine aL ?_; try simp only [RR]
                 refine hKB2 _ _ ⟨(by repeat (first | exact agB2 | refine aW.upd rfl ?_)), (by first | exact eB2_b4 | (simp only [nb10_b4, nb4_b10, aG, seval]; first | done | exact eB2_b4)), (by first | exact eB2_b10 | (simp only [nb10_b4, nb4_b10, aG, seval]; first | done | exact eB2_b10)), _, (by first | rfl | exact f11), ?_⟩
                 all_goals first | exact hF | (rw [hF]; simp; done)
             try (cases hc23; done)
             all_goals
              refine aB fun K hK => ?_
              refine aA rfl ?_
              simp only [f75, d7, RR, seval]
              refine hK _ _ ?_; clear hK K
              refine aI _ rfl (fun hc27 => ?_) (fun hc27 => ?_)
              ·try (cases hc27; done)
               all_goals
                refine aA rfl ?_
                simp only [RR, seval]
                refine hKB2 _ _ ⟨(by repeat (first | exact agB2 | refine aW.upd rfl ?_)), (by first | exact eB2_b4 | (simp only [nb10_b4, nb4_b10, aG, seval]; first | done | exact eB2_b4)), (by first | exact eB2_b10 | (simp only [nb10_b4, nb4_b10, aG, seval]; first | done | exact eB2_b10)), _, (by first | rfl | exact f11), ?_⟩
                all_goals first | exact hF | (rw [hF]; simp; done)
              try (cases hc27; done)
              all_goals
               refine aJ ?_
               refine aB fun K hK => ?_
               refine aA rfl ?_
               simp only [f75, d8, RR, seval]
               refine hK _ _ ?_; clear hK K
               refine aI _ rfl (fun hc29 => ?_) (fun hc29 => ?_)
               ·try (cases hc29; done)
                all_goals
                 refine aL ?_; try simp only [RR]
                 refine aI _ rfl (fun hc29 => ?_) (fun hc29 => ?_)
                 ·try (cases hc29; done)
                  all_goals
                   refine aA rfl ?_
                   simp only [RR, seval]
                   refine hKB2 _ _ ⟨(by repeat (first | exact agB2 | refine aW.upd rfl ?_)), (by first | exact eB2_b4 | (simp only [nb10_b4, nb4_b10, aG, seval]; first | done | exact eB2_b4)), (by first | exact eB2_b10 | (simp only [nb10_b4, nb4_b10, aG, seval]; first | done | exact eB2_b10)), _, (by first | rfl | exact f11), ?_⟩
                   all_goals first | exact hF | (rw [hF]; simp; done)
                 try (cases hc29; done)
                 all_goals
                  refine aB fun K hK => ?_
                  refine aA rfl ?_
                  simp only [aD, hg, d1, d2, d3, d4, d5, d6, d7, d8, d9, ha0, ha1, ha2, ha3, ha4, zl, hb1c, hb2c, hb3c, hb4c, RR, seval]
                  refine hK _ _ ?_; clear hK K
                  refine aP ?_; simp only [aV, aM, bE, f8, aD, hg, d1, d2, d3, d4, d5, d6, d7, d8, d9, ha0, ha1, ha2, ha3, ha4, zl, hb1c, hb2c, hb3c, hb4c, RR, seval]
                  refine aU.pure ?_
                  first | exact hmk (.inl hF) | (exact hmk (.inr (.inl rfl))) | (exact hmk (.inl (by rw [hF]; simp only [Bool.or_self, Bool.false_and, Bool.and_false]))) | (exact hmk (.inr (.inr (by simpa using hc32)))) | (exact hmk (.inl (by rw [hfm]; exact aN (fun c => by rw [c] at h; simp at h)))) | (rw [hkn0, List.take_length] at hk; rw [hk])
               try (cases hc29; done)
               all_goals
                refine aA rfl ?_
                simp only [f75, d9, RR, seval]
                refine aI _ rfl (fun hc30 => ?_) (fun hc30 => ?_)
                ·try (cases hc30; done)
                 all_goals
                  refine aA rfl ?_
                  simp only [RR, seval]
                  refine hKB2 _ _ ⟨(by repeat (first | exact agB2 | refine aW.upd rfl ?_)), (by first | exact eB2_b4 | (simp only [nb10_b4, nb4_b10, aG, seval]; first | done | exact eB2_b4)), (by first | exact eB2_b10 | (simp only [nb10_b4, nb4_b10, aG, seval]; first | done | exact eB2_b10)), _, (by first | rfl | exact f11), ?_⟩
                  all_goals first | exact hF | (rw [hF]; simp; done)
                try (cases hc30; done)
                all_goals
                 refine aB fun K hK => ?_
                 refine aA rfl ?_
                 simp only [RR, seval]
                 refine hK _ _ ?_; clear hK K
                 refine aP ?_; simp only [aV, aM, bE, RR, seval]
                 refine aU.pure ?_
                 first | exact hmk (.inl hF) | (exact hmk (.inr (.inl rfl))) | (exact hmk (.inl (by rw [hF]; simp only [Bool.or_self, Bool.false_and, Bool.and_false]))) | (exact hmk (.inr (.inr (by simpa using hc32)))) | (exact hmk (.inl (by rw [hfm]; exact aN (fun c => by rw [c] at h; simp at h)))) | (rw [hkn0, List.take_length] at hk; rw [hk])
       rintro F4 M4 ⟨agx, gb4, gb10, nk, f11, hfm⟩
       have f1 := (agx 1 rfl).trans f1
       have f2 := (agx 2 rfl).trans f2
       have f3 := (agx 3 rfl).trans f3
       have f4 := (agx 4 rfl).trans f4
       have f9 := (agx 9 rfl).trans f9
       have f10 := (agx 10 rfl).trans f10
       have f75 := (agx 75 rfl).trans f75
       have hb4 := gb4.trans hb4
       have hb10 := gb10.trans hb10
       have ag0 : aW [1, 2, 3, 4] F2 F4 := aW.sub agx rfl ag0
       have e0_b4 := gb4.trans e0_b4
       clear agx
       clear gb4
       clear gb10
       simp only [RR, seval]
       refine aB fun K hK => ?_
       refine aA rfl ?_
       simp only [f10, f11, hb10, aD, RR, seval]
       all_goals try ((first | refine aS (fun h => ?_) (fun h => ?_) | refine aT (fun h => ?_) (fun h => ?_)) <;> simp only [h, f1, f3, f4, f10, hb4, hb10, zl, RR, seval])
       all_goals try (refine aO (hkd (by have := aF ha0; omega)) ?_; simp only [RR, seval])
       all_goals
        refine hK _ _ ?_; clear hK K
        refine aI _ rfl (fun hc32 => ?_) (fun hc32 => ?_)
        ·try (cases hc32; done)
         all_goals
          refine aB fun K hK => ?_
          refine aA rfl ?_
          simp only [RR, seval]
          refine hK _ _ ?_; clear hK K
          refine aP ?_; simp only [aV, aM, bE, RR, seval]
          refine aU.pure ?_
          first | exact hmk (.inl hF) | (exact hmk (.inr (.inl rfl))) | (exact hmk (.inl (by rw [hF]; simp only [Bool.or_self, Bool.false_and, Bool.and_false]))) | (exact hmk (.inr (.inr (by simpa using hc32)))) | (exact hmk (.inl (by rw [hfm]; exact aN (fun c => by rw [c] at h; simp at h)))) | (rw [hkn0, List.take_length] at hk; rw [hk])
        try (cases hc32; done)
        all_goals
         refine aL ?_; try simp only [RR]
         refine aA rfl ?_
         simp only [f9, RR, seval]
         try rw [aR _ (by omega)]
         refine hK0 _ _ hlt0 ⟨by first | rfl | (simp only [aG, seval]; rfl), (by first | exact e0_b4 | (simp only [nb10_b4, nb4_b10, aG, seval]; first | done | exact e0_b4)), htk (by rw [hfm, bB (by have := ‹(!decide ((e.kids.length : Int) = (nk : Int))) = false›; simp at this; omega), (by simpa using hc32 : a6 = true)]; rfl)⟩ (by repeat (first | exact ag0 | refine aW.upd rfl ?_))
   have hkn0 : k = l.length := by have := aF hc; omega
   clear hc
   refine bH ?_; simp only [RR, seval]
   refine aB fun K hK => ?_
   refine aA rfl ?_
   simp only [RR, seval]
   refine hK _ _ ?_; clear hK K
   refine aP ?_; simp only [aV, aM, bE, RR, seval]
   refine aU.pure ?_
   first | exact hmk (.inl hF) | (exact hmk (.inr (.inl rfl))) | (exact hmk (.inl (by rw [hF]; simp only [Bool.or_self, Bool.false_and, Bool.and_false]))) | (exact hmk (.inr (.inr (by simpa using hc32)))) | (exact hmk (.inl (by rw [hfm]; exact aN (fun c => by rw [c] at h; simp at h)))) | (rw [hkn0, List.take_length] at hk; rw [hk])
end Go.Proofs.YtnfbbjhdflhmjaaDoor
