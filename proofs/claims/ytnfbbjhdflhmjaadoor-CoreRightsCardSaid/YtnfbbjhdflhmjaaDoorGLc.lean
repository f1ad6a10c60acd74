/- Chapter 19: how great a core is (the program's); how many gets there are (the law's). -/
import Derived.Test.YtnfbbjhdflhmjaaDoorCx
import Derived.Test.YtnfbbjhdflhmjaaDoorGLb
set_option linter.unusedSimpArgs false
set_option linter.unusedVariables false
set_option maxRecDepth 10000
namespace Go.Al
theorem Mt {l : List CE} {k : Nat} {e : CE} (h : l[k]? = some e) : dM (l.take (k + 1)) = dM (l.take k) + (1 + dM e.kids) := by
 induction l generalizing k with
 | nil => simp at h
 | cons x l ih =>
   cases k with
   | zero =>
     simp only [List.getElem?_cons_zero, Option.some.injEq] at h
     subst h
     simp only [List.take_succ_cons, List.take_zero, dM, x.sz_eq]; omega
   | succ k =>
     simp only [List.getElem?_cons_succ] at h
     simp only [List.take_succ_cons, dM, ih h]; omega
theorem Ms {l : List CS} {k : Nat} {e : CS} (h : l[k]? = some e) : cP (l.take (k + 1)) = cP (l.take k) + (1 + dM e.es + cP e.thn + cP e.els) := by
 induction l generalizing k with
 | nil => simp at h
 | cons x l ih =>
   cases k with
   | zero =>
     simp only [List.getElem?_cons_zero, Option.some.injEq] at h
     subst h
     simp only [List.take_succ_cons, List.take_zero, cP, x.sz_eq]; omega
   | succ k =>
     simp only [List.getElem?_cons_succ] at h
     simp only [List.take_succ_cons, cP, ih h]; omega
theorem Tm (l : List CE) (k : Nat) : dM (l.take k) ≤ dM l := by
 induction l generalizing k with
 | nil => simp
 | cons x l ih => cases k with
   | zero => simp [dM]
   | succ k => simp only [List.take_succ_cons, dM]; have := ih k; omega
theorem Tl (l : List CS) (k : Nat) : cP (l.take k) ≤ cP l := by
 induction l generalizing k with
 | nil => simp
 | cons x l ih => cases k with
   | zero => simp [cP]
   | succ k => simp only [List.take_succ_cons, cP]; have := ih k; omega
theorem Zx (l : List CE) : l.length ≤ dM l := mJ l
end Go.Al
namespace Go.Proofs.YtnfbbjhdflhmjaaDoor
open Go.Al
theorem zJ (n : Nat) : ∀ l : List CE, dM l ≤ n → n ≤ 1000000000 → dG cO 47 [.isl 6 (l.map CE.row)] (.int .i64 (dM l : Nat)) := by
 induction n using Nat.strongRecOn with
 | _ n ih =>
   intro l hn hb
   have hl := mJ l
   refine bD 21 [.tmp 2] Tryd.func47 rfl rfl rfl rfl ?_
   refine aB fun K hK => ?_
   refine aA rfl ?_
   simp only [RR, seval]
   refine hK _ _ ?_; clear hK K
   refine aB fun K hK => ?_
   refine aA rfl ?_
   simp only [aD, RR, seval]
   refine hK _ _ ?_; clear hK K
   refine aJ ?_
   refine aB fun K hK => ?_
   refine aA rfl ?_
   simp only [aD, RR, seval]
   refine hK _ _ ?_; clear hK K
   refine bG fun F1 M1 hfr hH => ?_
   have g2 := hfr 2
   have g3 := hfr 3
   have g8 := hfr 8
   have g9 := hfr 9
   have g10 := hfr 10
   try simp only [RR, seval] at g2 g3 g8 g9 g10
   have f2 := g2; clear g2
   have f3 := g3; clear g3
   have f8 := g8; clear g8
   have f9 := g9; clear g9
   have f10 := g10; clear g10
   clear hfr hH
   refine aQ ?_
   refine bY [2, 8, 9] (l.length) (fun k fr M => fr 10 = .int .i64 (k : Nat) ∧ ∃ x : Nat, fr 3 = .int .i64 (x : Nat) ∧ x + k = l.length + dM (l.take k)) ⟨f10, l.length, f3, by simp [dM]⟩ ?_
   rintro k F2 M2 hk0 ⟨fx, ⟨x, f3, hx⟩⟩ agx K0 hK0
   have f2 := (agx 2 rfl).trans f2
   have f8 := (agx 8 rfl).trans f8
   have f9 := (agx 9 rfl).trans f9
   have f10 := fx; clear fx
   have ag0 := aW.refl [2, 8, 9] F2
   clear agx
   refine aB fun K hK => ?_
   refine aA rfl ?_
   simp only [f9, f10, RR, seval]
   refine hK _ _ ?_; clear hK K
   refine aJ ?_
   refine aI _ rfl (fun hc => ?_) (fun hc => ?_)
   ·have hlt0 : k < l.length := by have := aC hc; omega
    clear hc
    have hg0 := aH hlt0
    have hm := jP (bA hlt0)
    have hle := Tm l (k + 1)
    have ht := Mt hg0
    have hs := (l[k]).sz_eq
    have hkd := ih (dM (l[k]).kids) (by omega) (l[k]).kids (aY _) (by omega)
    have hg := jF hg0
    generalize l[k] = e at hg0 hm ht hs hkd hg
    have z1 : IntKind.wrap .i64 ((x : Int) + (dM e.kids : Nat)) = ((x + dM e.kids : Nat) : Int) := by rw [aR _ (by omega)]; omega
    refine aL ?_; try simp only [RR]
    refine aJ ?_
    refine aQ ?_
    refine aB fun K hK => ?_
    refine aA rfl ?_
    simp only [f8, f10, hg, RR, seval]
    refine aK fun b5 hn5 => ?_
    simp only [RR, seval]
    refine hK _ _ ?_; clear hK K
    refine aA rfl ?_
    simp only [f3, RR, seval]
    refine aO (hkd) ?_
    simp only [z1, RR, seval]
    refine aA rfl ?_
    simp only [f10, RR, seval]
    try rw [aR _ (by omega)]
    refine hK0 _ _ hlt0 ⟨by first | rfl | (simp only [aG, seval]; rfl), x + dM e.kids, rfl, by omega⟩ (by repeat (first | exact ag0 | refine aW.upd rfl ?_))
   have hkn0 : k = l.length := by have := aF hc; omega
   clear hc
   rw [hkn0, List.take_length] at hx
   have hx : x = dM l := by omega
   subst hx
   refine bH ?_; simp only [RR, seval]
   refine aB fun K hK => ?_
   refine aA rfl ?_
   simp only [f3, RR, seval]
   refine hK _ _ ?_; clear hK K
   refine aP ?_; simp only [aV, aM, bE, RR, seval]
   refine aU.pure ?_
   rfl
theorem yX (n : Nat) : ∀ l : List CS, cP l ≤ n → n ≤ 1000000000 → dG cO 32 [.isl 6 (l.map CS.row)] (.int .i64 (cP l : Nat)) := by
 induction n using Nat.strongRecOn with
 | _ n ih =>
   intro l hn hb
   have hl := oR l
   refine bD 29 [.tmp 2] Tryd.func32 rfl rfl rfl rfl ?_
   refine aB fun K hK => ?_
   refine aA rfl ?_
   simp only [RR, seval]
   refine hK _ _ ?_; clear hK K
   refine aB fun K hK => ?_
   refine aA rfl ?_
   simp only [aD, RR, seval]
   refine hK _ _ ?_; clear hK K
   refine aJ ?_
   refine aB fun K hK => ?_
   refine aA rfl ?_
   simp only [aD, RR, seval]
   refine hK _ _ ?_; clear hK K
   refine bG fun F1 M1 hfr hH => ?_
   have g2 := hfr 2
   have g3 := hfr 3
   have g8 := hfr 8
   have g9 := hfr 9
   have g10 := hfr 10
   try simp only [RR, seval] at g2 g3 g8 g9 g10
   have f2 := g2; clear g2
   have f3 := g3; clear g3
   have f8 := g8; clear g8
   have f9 := g9; clear g9
   have f10 := g10; clear g10
   clear hfr hH
   refine aQ ?_
   refine bY [2, 8, 9] (l.length) (fun k fr M => fr 10 = .int .i64 (k : Nat) ∧ ∃ x : Nat, fr 3 = .int .i64 (x : Nat) ∧ x + k = l.length + cP (l.take k)) ⟨f10, l.length, f3, by simp [cP]⟩ ?_
   rintro k F2 M2 hk0 ⟨fx, ⟨x, f3, hx⟩⟩ agx K0 hK0
   have f2 := (agx 2 rfl).trans f2
   have f8 := (agx 8 rfl).trans f8
   have f9 := (agx 9 rfl).trans f9
   have f10 := fx; clear fx
   have ag0 := aW.refl [2, 8, 9] F2
   clear agx
   refine aB fun K hK => ?_
   refine aA rfl ?_
   simp only [f9, f10, RR, seval]
   refine hK _ _ ?_; clear hK K
   refine aJ ?_
   refine aI _ rfl (fun hc => ?_) (fun hc => ?_)
   ·have hlt0 : k < l.length := by have := aC hc; omega
    clear hc
    have hg0 := aH hlt0
    have hm := jO (bA hlt0)
    have hle := Tl l (k + 1)
    have ht := Ms hg0
    have hs := (l[k]).sz_eq
    have c1 := zJ (dM (l[k]).es) (l[k]).es (aY _) (by omega)
    have c2 := ih (cP (l[k]).thn) (by omega) (l[k]).thn (aY _) (by omega)
    have c3 := ih (cP (l[k]).els) (by omega) (l[k]).els (aY _) (by omega)
    have hg := oZ hg0
    generalize l[k] = e at hg0 hm ht hs c1 c2 c3 hg
    have z1 : IntKind.wrap .i64 ((dM e.es : Nat) + (cP e.thn : Nat) : Int) = ((dM e.es + cP e.thn : Nat) : Int) := by rw [aR _ (by omega)]; omega
    have z2 : IntKind.wrap .i64 (((dM e.es + cP e.thn : Nat) : Int) + (cP e.els : Nat)) = ((dM e.es + cP e.thn + cP e.els : Nat) : Int) := by rw [aR _ (by omega)]; omega
    have z3 : IntKind.wrap .i64 ((x : Int) + ((dM e.es + cP e.thn + cP e.els : Nat) : Int)) = ((x + (dM e.es + cP e.thn + cP e.els) : Nat) : Int) := by rw [aR _ (by omega)]; omega
    refine aL ?_; try simp only [RR]
    refine aJ ?_
    refine aQ ?_
    refine aB fun K hK => ?_
    refine aA rfl ?_
    simp only [f8, f10, hg, RR, seval]
    refine aK fun b5 hn5 => ?_
    simp only [RR, seval]
    refine hK _ _ ?_; clear hK K
    refine bC (fun x => x ≠ b5) [(0, 3), (1, 3), (2, 1), (4, 3), (5, 0), (8, 3), (9, 0), (3, 1), (6, 1), (7, 3), (10, 1), (11, 3), (12, 3), (13, 3)] [] dB (by kernel_rfl) rfl rfl ?_
    simp only [bW, dJ, f3, RR, seval]
    refine aO (c1) ?_
    simp only [RR, seval]
    refine aO (c2) ?_
    simp only [z1, RR, seval]
    refine aO (c3) ?_
    simp only [z2, z3, RR, seval]
    refine aA rfl ?_
    simp only [f10, RR, seval]
    try rw [aR _ (by omega)]
    refine hK0 _ _ hlt0 ⟨by first | rfl | (simp only [aG, seval]; rfl), x + (dM e.es + cP e.thn + cP e.els), rfl, by omega⟩ (by repeat (first | exact ag0 | refine aW.upd rfl ?_))
   have hkn0 : k = l.length := by have := aF hc; omega
   clear hc
   rw [hkn0, List.take_length] at hx
   have hx : x = cP l := by omega
   subst hx
   refine bH ?_; simp only [RR, seval]
   refine aB fun K hK => ?_
   refine aA rfl ?_
   simp only [f3, RR, seval]
   refine hK _ _ ?_; clear hK K
   refine aP ?_; simp only [aV, aM, bE, RR, seval]
   refine aU.pure ?_
   rfl
end Go.Proofs.YtnfbbjhdflhmjaaDoor
