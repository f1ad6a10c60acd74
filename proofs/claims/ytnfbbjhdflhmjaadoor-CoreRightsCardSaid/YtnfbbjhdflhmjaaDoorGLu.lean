/- Chapter 19, the judge's: may a core be? -/
import Derived.Test.YtnfbbjhdflhmjaaDoorGLt
import Derived.Test.YtnfbbjhdflhmjaaDoorGLg
set_option linter.unusedSimpArgs false
set_option linter.unusedVariables false
set_option maxRecDepth 10000
namespace Go.Al
theorem tM {words : Int} {fs : List CF} (h : ∀ (j : Nat) (hj : j < fs.length), cR words (fs.take j) fs[j].word fs[j].body 1 = true) : ∀ (l : List CF) (k : Nat), fs.drop k = l → iI words (fs.take k) l = true
 | [], _, _ => by simp only [iI]
 | g :: l, k, hd => by
   have hk : k < fs.length := by
    rcases Nat.lt_or_ge k fs.length with h | h
    ·exact h
    rw [List.drop_eq_nil_of_le h] at hd; cases hd
   rw [bK hk] at hd
   injection hd with h1 h2
   rw [iI, aX, ← h1]
   exact ⟨h k hk, by rw [← bT hk]; exact tM h l (k + 1) h2⟩
end Go.Al
namespace Go.Proofs.YtnfbbjhdflhmjaaDoor
open Go.Al
set_option maxHeartbeats 4000000 in
theorem rZ : Cu := by
 intro c hc
 have hav : c.av = .agg [.int .i64 c.words, .isl 5 (c.funs.map CF.row)] := rfl
 have hR : iA c = (decide (0 ≤ c.words) && decide (c.words ≤ 32768) && decide (1 ≤ c.funs.length) && decide (c.funs.length ≤ 64) && c.funs.all (gU c.words) && iI c.words [] c.funs &&
  match c.funs.getLast? with
  | some f => decide (f.params = 0) && !f.word
  | none => false) := rfl
 rw [hav]
 have hfit : c.funs.length ≤ 9223372036854775807 := hc.fit
 have hfu := hc.funs
 have hw := hc.words
 generalize iA c = res at *
 generalize c.words = w at *
 generalize c.funs = fs at *
 have hwi := fun a m => qX w (fs.map CF.row) a m hw
 have hbad1 : ¬ (0 ≤ w ∧ w ≤ 32768 ∧ 1 ≤ fs.length ∧ fs.length ≤ 64) → AV.bool false = AV.bool res := fun h => by
  rw [hR]
  have e : (decide (0 ≤ w) && decide (w ≤ 32768) && decide (1 ≤ fs.length) && decide (fs.length ≤ 64)) = false := by
   rw [Bool.eq_false_iff]; intro c; simp only [aX, bF] at c; exact h ⟨c.1.1.1, c.1.1.2, c.1.2, c.2⟩
  rw [e]; simp only [Bool.false_and]
 have hbad2 : fs.all (gU w) = false → AV.bool false = AV.bool res := fun h => by rw [hR, h]; simp only [Bool.and_false, Bool.false_and]
 have hbad3 : iI w [] fs = false → AV.bool false = AV.bool res := fun h => by rw [hR, h]; simp only [Bool.and_false, Bool.false_and]
 refine bD 96 [.tmp 2] Tryd.func14 rfl rfl rfl rfl ?_
 refine aB fun K hK => ?_
 refine aA rfl ?_
 simp only [RR, seval]
 refine aK fun b1 hn1 => ?_
 simp only [RR, seval]
 refine hK _ _ ?_; clear hK K
 refine aJ ?_
 refine bG fun F1 M1 hfr hH => ?_
 have g1 := hfr 1
 have g2 := hfr 2
 have gb1 := hH b1
 try simp only [RR, seval] at g1 g2 gb1
 have f1 := g1; clear g1
 have f2 := g2; clear g2
 have hb1 := gb1; clear gb1
 clear hfr hH
 refine dH (fun fr M => aW [1] F1 fr ∧ M b1 = M1 b1 ∧ 0 ≤ w ∧ w ≤ 32768 ∧ 1 ≤ fs.length ∧ fs.length ≤ 64) (fun KS1 hKS1 => ?_) ?_
 ·have agS1 := aW.refl [1] F1
  have eS1_b1 : M1 b1 = M1 b1 := rfl
  refine aB fun K hK => ?_
  refine aA rfl ?_
  simp only [f1, hb1, RR, seval]
  repeat' ((first | refine aS (fun h => ?_) (fun h => ?_) | refine aT (fun h => ?_) (fun h => ?_)) <;> simp only [h, f1, hb1, aD, RR, seval])
  all_goals
   refine hK _ _ ?_; clear hK K
   refine aI _ rfl (fun hc1 => ?_) (fun hc1 => ?_)
   ·try (cases hc1; done)
    all_goals
     refine aB fun K hK => ?_
     refine aA rfl ?_
     simp only [RR, seval]
     refine hK _ _ ?_; clear hK K
     refine aP ?_; simp only [aV, aM, bE, RR, seval]
     refine aU.pure ?_
     first | exact hbad1 (fun hq => by have := aC ‹decide (w < 0) = true›; omega) | exact hbad1 (fun hq => by have := aC ‹decide ((32768 : Int) < w) = true›; omega) | exact hbad1 (fun hq => by have := aC ‹decide ((fs.length : Int) < 1) = true›; omega) | exact hbad1 (fun hq => by have := aC ‹decide ((64 : Int) < (fs.length : Int)) = true›; omega) | exact hbd (by rw [hF, (by simpa using hc7 : i1 = false)]; simp only [Bool.and_false]) | exact hbd (by rw [hF, aN (by have := aC ‹decide (g.params < 0) = true›; omega)]; rfl) | exact hbd (by rw [hF, aN (p := g.params ≤ 6) (by have := aC ‹decide ((6 : Int) < g.params) = true›; omega)]; simp only [Bool.and_false, Bool.false_and]) | exact hbd (by rw [hF, aN (p := g.params ≤ g.slots) (by have := aC ‹decide (g.slots < g.params) = true›; omega)]; simp only [Bool.and_false, Bool.false_and]) | exact hbd rfl | (rw [hR]; rfl)
   try (cases hc1; done)
   all_goals
    refine aL ?_; try simp only [RR]
    refine hKS1 _ _ ⟨(by repeat (first | exact agS1 | refine aW.upd rfl ?_)), (by first | exact eS1_b1 | (simp only [aG, seval]; first | done | exact eS1_b1)), ?_⟩
    have e1 := aF ‹decide (w < 0) = false›
    have e2 := aF ‹decide ((32768 : Int) < w) = false›
    have e3 := aF ‹decide ((fs.length : Int) < 1) = false›
    have e4 := aF ‹decide ((64 : Int) < (fs.length : Int)) = false›
    omega
 rintro F2 M2 ⟨agx, gb1, hq⟩
 have f1 := (agx 1 rfl).trans f1
 have hb1 := gb1.trans hb1
 clear agx
 clear gb1
 simp only [RR, seval]
 refine aJ ?_
 refine aB fun K hK => ?_
 refine aA rfl ?_
 simp only [RR, seval]
 refine hK _ _ ?_; clear hK K
 refine bG fun F3 M3 hfr hH => ?_
 have g1 := hfr 1
 have g2 := hfr 2
 have g3 := hfr 3
 have gb1 := hH b1
 try simp only [f1, hb1, RR, seval] at g1 g2 g3 gb1
 have f1 := g1; clear g1
 have f2 := g2; clear g2
 have f3 := g3; clear g3
 have hb1 := gb1; clear gb1
 clear hfr hH
 refine aQ ?_
 refine bY [1] (fs.length) (fun k fr M => fr 3 = .int .i64 (k : Nat) ∧ M b1 = M3 b1 ∧ (fs.take k).all (gU w) = true) ⟨f3, rfl, rfl⟩ ?_
 rintro k F4 M4 hk0 ⟨fx, gb1, hk⟩ agx K0 hK0
 have f1 := (agx 1 rfl).trans f1
 have f3 := fx; clear fx
 have hb1 := gb1.trans hb1
 have ag0 := aW.refl [1] F4
 have e0_b1 := gb1; clear gb1
 clear agx
 refine aJ ?_
 refine aB fun K hK => ?_
 refine aA rfl ?_
 simp only [f1, f3, hb1, aD, RR, seval]
 refine hK _ _ ?_; clear hK K
 refine aI _ rfl (fun hc => ?_) (fun hc => ?_)
 ·have hlt0 : k < fs.length := by have := aC hc; omega
  clear hc
  have hg0 := aH hlt0
  have hg := jE hg0
  generalize fs[k] = g at hg0 hg
  have htk := pM hg0 hk
  have hbd : gU w g = false → AV.bool false = AV.bool res := fun h1 => hbad2 (qH hg0 h1)
  have hc1 := hwi g.first g.slots
  have hF : gU w g = (decide (0 ≤ g.params) && decide (g.params ≤ 6) && decide (g.params ≤ g.slots) && cF w g.first g.slots) := rfl
  generalize gU w g = hd at *
  generalize cF w g.first g.slots = i1 at *
  refine aL ?_; try simp only [RR]
  refine aJ ?_
  refine aQ ?_
  refine aB fun K hK => ?_
  refine aA rfl ?_
  simp only [f1, f3, hb1, hg, RR, seval]
  refine aK fun b4 hn4 => ?_
  have nb4_b1 : b4 ≠ b1 := fun e => by rw [e] at hn4; simp only [hb1, seval, reduceCtorEq] at hn4
  have nb1_b4 : b1 ≠ b4 := fun e => nb4_b1 e.symm
  simp only [RR, seval]
  refine hK _ _ ?_; clear hK K
  refine aB fun K hK => ?_
  refine aA rfl ?_
  simp only [RR, seval]
  all_goals try ((first | refine aS (fun h => ?_) (fun h => ?_) | refine aT (fun h => ?_) (fun h => ?_)) <;> simp only [h, RR, seval])
  all_goals try ((first | refine aS (fun h => ?_) (fun h => ?_) | refine aT (fun h => ?_) (fun h => ?_)) <;> simp only [h, RR, seval])
  all_goals try ((first | refine aS (fun h => ?_) (fun h => ?_) | refine aT (fun h => ?_) (fun h => ?_)) <;> simp only [h, f1, hb1, nb1_b4, RR, seval])
  all_goals try (refine aO (hc1) ?_; simp only [RR, seval])
  all_goals
   refine hK _ _ ?_; clear hK K
   refine aI _ rfl (fun hc7 => ?_) (fun hc7 => ?_)
   ·try (cases hc7; done)
    all_goals
     refine aB fun K hK => ?_
     refine aA rfl ?_
     simp only [RR, seval]
     refine hK _ _ ?_; clear hK K
     refine aP ?_; simp only [aV, aM, bE, RR, seval]
     refine aU.pure ?_
     first | exact hbad1 (fun hq => by have := aC ‹decide (w < 0) = true›; omega) | exact hbad1 (fun hq => by have := aC ‹decide ((32768 : Int) < w) = true›; omega) | exact hbad1 (fun hq => by have := aC ‹decide ((fs.length : Int) < 1) = true›; omega) | exact hbad1 (fun hq => by have := aC ‹decide ((64 : Int) < (fs.length : Int)) = true›; omega) | exact hbd (by rw [hF, (by simpa using hc7 : i1 = false)]; simp only [Bool.and_false]) | exact hbd (by rw [hF, aN (by have := aC ‹decide (g.params < 0) = true›; omega)]; rfl) | exact hbd (by rw [hF, aN (p := g.params ≤ 6) (by have := aC ‹decide ((6 : Int) < g.params) = true›; omega)]; simp only [Bool.and_false, Bool.false_and]) | exact hbd (by rw [hF, aN (p := g.params ≤ g.slots) (by have := aC ‹decide (g.slots < g.params) = true›; omega)]; simp only [Bool.and_false, Bool.false_and]) | exact hbd rfl | (rw [hR]; rfl)
   try (cases hc7; done)
   all_goals
    refine aL ?_; try simp only [RR]
    refine aA rfl ?_
    simp only [f3, RR, seval]
    try rw [aR _ (by omega)]
    refine hK0 _ _ hlt0 ⟨by first | rfl | (simp only [aG, seval]; rfl), (by first | exact e0_b1 | (simp only [nb1_b4, aG, seval]; first | done | exact e0_b1)), htk (by rw [hF, bB (by have := aF ‹decide (g.params < 0) = false›; omega), bB (by have := aF ‹decide ((6 : Int) < g.params) = false›; omega), bB (by have := aF ‹decide (g.slots < g.params) = false›; omega), (by simpa using hc7 : i1 = true)]; rfl)⟩ (by repeat (first | exact ag0 | refine aW.upd rfl ?_))
 have hkn0 : k = fs.length := by have := aF hc; omega
 clear hc
 rw [hkn0, List.take_length] at hk
 refine bH ?_; simp only [RR, seval]
 refine aJ ?_
 refine aB fun K hK => ?_
 refine aA rfl ?_
 simp only [RR, seval]
 refine hK _ _ ?_; clear hK K
 refine bG fun F5 M5 hfr hH => ?_
 have g1 := hfr 1
 have g2 := hfr 2
 have g5 := hfr 5
 have gb1 := hH b1
 try simp only [f1, hb1, RR, seval] at g1 g2 g5 gb1
 have f1 := g1; clear g1
 have f2 := g2; clear g2
 have f5 := g5; clear g5
 have hb1 := gb1; clear gb1
 clear hfr hH
 refine aQ ?_
 refine bY [1] (fs.length) (fun m fr M => fr 5 = .int .i64 (m : Nat) ∧ M b1 = M5 b1 ∧ ∀ (j : Nat) (hj : j < fs.length), j < m → cR w (fs.take j) fs[j].word fs[j].body 1 = true) ⟨f5, rfl, fun j _ h => absurd h (Nat.not_lt_zero _)⟩ ?_
 rintro m F6 M6 hk2 ⟨fx, gb1, hm⟩ agx K2 hK2
 have f1 := (agx 1 rfl).trans f1
 have f5 := fx; clear fx
 have hb1 := gb1.trans hb1
 have ag2 := aW.refl [1] F6
 have e2_b1 := gb1; clear gb1
 clear agx
 refine aJ ?_
 refine aB fun K hK => ?_
 refine aA rfl ?_
 simp only [f1, f5, hb1, aD, RR, seval]
 refine hK _ _ ?_; clear hK K
 refine aI _ rfl (fun hc => ?_) (fun hc => ?_)
 ·have hlt2 : m < fs.length := by have := aC hc; omega
  clear hc
  have hg := jE (aH hlt2)
  have hcon := Fe w hw fs m hlt2 _ rfl (cP fs[m].body) fs[m].body 1 (aY _) (hfu _ (bA hlt2)).body (by omega) (by omega)
  have hst : ∀ (j : Nat) (hj : j < fs.length), j < m + 1 → cR w (fs.take m) fs[m].word fs[m].body 1 = true → cR w (fs.take j) fs[j].word fs[j].body 1 = true := fun j hj h1 h2 => by
   rcases Nat.lt_or_ge j m with h | h
   ·exact hm j hj h
   obtain rfl : j = m := by omega
   exact h2
  have hbd : cR w (fs.take m) fs[m].word fs[m].body 1 = false → AV.bool false = AV.bool res := fun h1 => hbad3 (by
   rw [Bool.eq_false_iff]; intro c
   have := kZ (words := w) (fs := fs) fs 0 (by simp) (by simpa using c) m _ (aH hlt2)
   rw [Nat.zero_add, h1] at this; cases this)
  generalize cR w (fs.take m) fs[m].word fs[m].body 1 = rr at hcon hst hbd
  generalize fs[m] = g at hg hcon
  cases rr
  all_goals
   refine aL ?_; try simp only [RR]
   refine aJ ?_
   refine aQ ?_
   refine aB fun K hK => ?_
   refine bC (fun x => x ≠ b1) [(0, 1), (1, 3), (2, 3), (3, 1), (4, 3), (5, 3), (6, 3), (7, 1), (8, 1), (9, 3)] [] dB (by kernel_rfl) rfl rfl ?_
   simp only [bW, f1, f5, hb1, hg, RR, seval]
   refine aO (hcon) ?_
   simp only [RR, seval]
   refine hK _ _ ?_; clear hK K
   refine aI _ rfl (fun hc12 => ?_) (fun hc12 => ?_)
   ·try (cases hc12; done)
    all_goals
     refine aB fun K hK => ?_
     refine aA rfl ?_
     simp only [RR, seval]
     refine hK _ _ ?_; clear hK K
     refine aP ?_; simp only [aV, aM, bE, RR, seval]
     refine aU.pure ?_
     first | exact hbad1 (fun hq => by have := aC ‹decide (w < 0) = true›; omega) | exact hbad1 (fun hq => by have := aC ‹decide ((32768 : Int) < w) = true›; omega) | exact hbad1 (fun hq => by have := aC ‹decide ((fs.length : Int) < 1) = true›; omega) | exact hbad1 (fun hq => by have := aC ‹decide ((64 : Int) < (fs.length : Int)) = true›; omega) | exact hbd (by rw [hF, (by simpa using hc7 : i1 = false)]; simp only [Bool.and_false]) | exact hbd (by rw [hF, aN (by have := aC ‹decide (g.params < 0) = true›; omega)]; rfl) | exact hbd (by rw [hF, aN (p := g.params ≤ 6) (by have := aC ‹decide ((6 : Int) < g.params) = true›; omega)]; simp only [Bool.and_false, Bool.false_and]) | exact hbd (by rw [hF, aN (p := g.params ≤ g.slots) (by have := aC ‹decide (g.slots < g.params) = true›; omega)]; simp only [Bool.and_false, Bool.false_and]) | exact hbd rfl | (rw [hR]; rfl)
   try (cases hc12; done)
   all_goals
    refine aL ?_; try simp only [RR]
    refine aA rfl ?_
    simp only [f5, RR, seval]
    try rw [aR _ (by omega)]
    refine hK2 _ _ hlt2 ⟨by first | rfl | (simp only [aG, seval]; rfl), (by first | exact e2_b1 | (simp only [aG, seval]; first | done | exact e2_b1)), fun j hj h1 => hst j hj h1 rfl⟩ (by repeat (first | exact ag2 | refine aW.upd rfl ?_))
 have hkn2 : m = fs.length := by have := aF hc; omega
 clear hc
 have hbo := tM (words := w) (fs := fs) (fun j hj => hm j hj (by omega)) fs 0 (by simp)
 rw [List.take_zero] at hbo
 have hlast : fs.length - 1 < fs.length := by omega
 have hgl : fs.getLast? = some fs[fs.length - 1] := by rw [List.getLast?_eq_getElem?, aH hlast]
 have hrowg := jE (aH hlast)
 have e3 : IntKind.wrap .i64 ((fs.length : Int) - 1) = ((fs.length - 1 : Nat) : Int) := by rw [aR _ (by omega)]; omega
 have hzl : ((fs.length - 1 : Nat) : Int) < (fs.length : Int) := by omega
 rw [hk, hbo, hgl, bB hq.1, bB hq.2.1, bB hq.2.2.1, bB hq.2.2.2] at hR
 generalize fs[fs.length - 1] = g at hR hrowg
 simp only [Bool.true_and] at hR
 generalize hz : decide (g.params = 0) = z at hR
 generalize hz2 : g.word = z2 at *
 refine bH ?_; simp only [RR, seval]
 refine aB fun K hK => ?_
 refine aA rfl ?_
 simp only [f1, hb1, aD, e3, hrowg, RR, seval]
 refine aK fun b6 hn6 => ?_
 have nb6_b1 : b6 ≠ b1 := fun e => by rw [e] at hn6; simp only [hb1, seval, reduceCtorEq] at hn6
 have nb1_b6 : b1 ≠ b6 := fun e => nb6_b1 e.symm
 simp only [RR, seval]
 refine hK _ _ ?_; clear hK K
 cases z <;> cases z2
 all_goals
  refine aB fun K hK => ?_
  refine aA rfl ?_
  simp only [hz, RR, seval]
  refine hK _ _ ?_; clear hK K
  refine aP ?_; simp only [aV, aM, bE, RR, seval]
  refine aU.pure ?_
  first | exact hbad1 (fun hq => by have := aC ‹decide (w < 0) = true›; omega) | exact hbad1 (fun hq => by have := aC ‹decide ((32768 : Int) < w) = true›; omega) | exact hbad1 (fun hq => by have := aC ‹decide ((fs.length : Int) < 1) = true›; omega) | exact hbad1 (fun hq => by have := aC ‹decide ((64 : Int) < (fs.length : Int)) = true›; omega) | exact hbd (by rw [hF, (by simpa using hc7 : i1 = false)]; simp only [Bool.and_false]) | exact hbd (by rw [hF, aN (by have := aC ‹decide (g.params < 0) = true›; omega)]; rfl) | exact hbd (by rw [hF, aN (p := g.params ≤ 6) (by have := aC ‹decide ((6 : Int) < g.params) = true›; omega)]; simp only [Bool.and_false, Bool.false_and]) | exact hbd (by rw [hF, aN (p := g.params ≤ g.slots) (by have := aC ‹decide (g.slots < g.params) = true›; omega)]; simp only [Bool.and_false, Bool.false_and]) | exact hbd rfl | (rw [hR]; rfl)
end Go.Proofs.YtnfbbjhdflhmjaaDoor
