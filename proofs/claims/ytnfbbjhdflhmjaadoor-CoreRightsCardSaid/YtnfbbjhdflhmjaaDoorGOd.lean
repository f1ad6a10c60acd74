/- Chapter 19, the program's: a program's core. -/
import Derived.Test.YtnfbbjhdflhmjaaDoorGOc
import Derived.Test.YtnfbbjhdflhmjaaDoorT2
set_option linter.unusedSimpArgs false
set_option linter.unusedVariables false
set_option maxRecDepth 10000
namespace Go.Proofs.YtnfbbjhdflhmjaaDoor
open Go.Al
theorem vP {p : Pg} (h : fP p = 0) : iZ p = true ∧ (kT p).Nodup ∧ jH p = true ∧ wD p = true := by
 unfold fP at h
 by_cases h1 : iZ p = true
 ·rw [if_pos h1] at h
  by_cases h2 : jJ p = 0
  ·refine ⟨h1, ?_⟩
   unfold jJ at h2
   split at h2
   ·rename_i a1
    split at h2
    ·rename_i a2
     have a3 := a1
     simp only [jH, aX, bF] at a3
     exact ⟨a3.1, a1, a2⟩
    cases h2
   cases h2
  rw [if_neg h2] at h
  exact absurd h h2
 rw [if_neg h1] at h
 cases h
theorem Dq {p : Pg} (h : fP p = 0) : ∀ f ∈ p.funs, (gG f).Nodup := fun f hf => by
 obtain ⟨_, _, hn, _⟩ := vP h
 simp only [jH, aX] at hn
 obtain ⟨i, hi⟩ := List.getElem?_of_mem hf
 exact (lT p p.funs 0 hn.2 i f hi).1
theorem Dp {p : Pg} (h : fP p = 0) : ∀ a ∈ p.arrs, 0 ≤ a.size ∧ a.size ≤ 4096 := fun a ha => by
 obtain ⟨hr, _⟩ := vP h
 simp only [iZ, aX, bF, List.all_eq_true] at hr
 have := hr.1.2 a ha
 simp only [rF, aX, bF] at this
 omega
set_option maxHeartbeats 8000000 in
theorem Yd (p : Pg) (hp : p.few) : dG cO 20 [p.av] (.tup [(Wo p).1.av, .int .i64 (Wo p).2]) := by
 have hS := Ij p hp
 by_cases hs : fP p = 0
 rotate_left
 ·have e : Wo p = (⟨0, []⟩, fP p) := by unfold Wo; rw [if_neg hs]
  rw [e]
  have zs : ¬ fP p = 0 := hs
  generalize fP p = so at *
  obtain ⟨vs, aa, fs⟩ := p
  simp only [Pg.av, Pg.row] at hS ⊢
  refine bD 107 [.cell 2 24, .tmp 3] Tryd.func20 rfl rfl rfl rfl ?_
  refine aB fun K hK => ?_
  refine aA rfl ?_
  simp only [RR, seval]
  refine aK fun b1 hn1 => ?_
  simp only [RR, seval]
  refine aK fun b2 hn2 => ?_
  have nb2_b1 : b2 ≠ b1 := fun e => by rw [e] at hn2; simp only [RR, seval, reduceCtorEq] at hn2
  have nb1_b2 : b1 ≠ b2 := fun e => nb2_b1 e.symm
  simp only [RR, seval]
  refine hK _ _ ?_; clear hK K
  refine aJ ?_
  refine aB fun K hK => ?_
  refine aA rfl ?_
  simp only [nb1_b2, RR, seval]
  refine aO (hS) ?_
  simp only [RR, seval]
  refine hK _ _ ?_; clear hK K
  refine aB fun K hK => ?_
  refine aA rfl ?_
  simp only [zs, RR, seval]
  refine hK _ _ ?_; clear hK K
  refine aI true rfl (fun _ => ?_) (fun hc => by cases hc)
  refine aB fun K hK => ?_
  refine aA rfl ?_
  simp only [RR, seval]
  refine hK _ _ ?_; clear hK K
  refine aP ?_; simp only [aV, aM, bE, RR, seval]
  exact aU.turn (jW.sub (lG.tup (eQ.cons (lG.agg (eQ.cons (lG.refl _) (eQ.cons (lG.nsl 5) (eQ.refl _)))) (eQ.refl _)))) (aU.pure rfl)
  skip
 obtain ⟨_, hng, _, _⟩ := vP hs
 have hnl := Dq hs
 have hsz := Dp hs
 have hgl := Cn p hng hp.v hp.a hp.f hsz
 have hsum0 := Bt hsz
 have hpv := hp.v
 have hpa := hp.a
 have hpf := hp.f
 have hfs := hp.fs
 obtain ⟨G, hG⟩ : ∃ G, Nb p = G := ⟨_, rfl⟩
 obtain ⟨wb, hwb⟩ : ∃ w, uL p = w := ⟨_, rfl⟩
 have hwb0 : 0 ≤ wb ∧ wb ≤ 50000000 := by rw [← hwb]; unfold uL; omega
 have hfin : Wo p = if wb + jX p.funs ≤ 32768 then (⟨wb + jX p.funs, rM G wb p.funs⟩, 0) else (⟨0, []⟩, 2) := by
  unfold Wo Lu Bo
  rw [if_pos hs, hwb, hG]
 rw [hfin]
 rw [hG, hwb] at hgl
 rw [hs] at hS
 have hsc : ∀ w, ∀ f ∈ p.funs, dG cO 36 [Pa G (Yo w f), .isl 5 (f.body.map Sm.row)] (.isl 6 ((f.body.map (Ob (Mw G (Yo w f)))).map CS.row)) := fun w f hf => Jp G (Yo w f) _ f.body (aY _) (by have := hfs f hf; omega)
 clear hsum0 hp hs hfin hng hsz hG hwb
 obtain ⟨vs, aa, fs⟩ := p
 simp only [Pg.av, Pg.row] at hS hgl ⊢
 simp only at hpv hpa hpf hfs hnl hsc ⊢
 unfold Pa at hsc
 obtain ⟨gk, gv, hmG⟩ : ∃ gk gv, Ud G = .imp gk gv := ⟨_, _, rfl⟩
 rw [hmG] at hgl hsc
 refine bD 107 [.cell 2 24, .tmp 3] Tryd.func20 rfl rfl rfl rfl ?_
 refine aB fun K hK => ?_
 refine aA rfl ?_
 simp only [RR, seval]
 refine aK fun b1 hn1 => ?_
 simp only [RR, seval]
 refine aK fun b2 hn2 => ?_
 have nb2_b1 : b2 ≠ b1 := fun e => by rw [e] at hn2; simp only [RR, seval, reduceCtorEq] at hn2
 have nb1_b2 : b1 ≠ b2 := fun e => nb2_b1 e.symm
 simp only [RR, seval]
 refine hK _ _ ?_; clear hK K
 refine aJ ?_
 refine aB fun K hK => ?_
 refine aA rfl ?_
 simp only [nb1_b2, RR, seval]
 refine aO (hS) ?_
 simp only [RR, seval]
 refine hK _ _ ?_; clear hK K
 refine aB fun K hK => ?_
 refine aA rfl ?_
 simp only [RR, seval]
 refine hK _ _ ?_; clear hK K
 refine aI false rfl (fun hc => by cases hc) (fun _ => ?_)
 refine aL ?_; try simp only [RR]
 refine aB fun K hK => ?_
 refine aA rfl ?_
 simp only [nb1_b2, RR, seval]
 refine aO (hgl) ?_
 simp only [RR, seval]
 refine hK _ _ ?_; clear hK K
 refine aB fun K hK => ?_
 refine aA rfl ?_
 simp only [RR, seval]
 refine aK fun b7 hn7 => ?_
 have nb7_b1 : b7 ≠ b1 := fun e => by rw [e] at hn7; simp only [nb1_b2, RR, seval, reduceCtorEq] at hn7
 have nb1_b7 : b1 ≠ b7 := fun e => nb7_b1 e.symm
 have nb7_b2 : b7 ≠ b2 := fun e => by rw [e] at hn7; simp only [RR, seval, reduceCtorEq] at hn7
 have nb2_b7 : b2 ≠ b7 := fun e => nb7_b2 e.symm
 simp only [RR, seval]
 refine hK _ _ ?_; clear hK K
 refine aJ ?_
 refine aB fun K hK => ?_
 refine aA rfl ?_
 simp only [nb1_b2, nb1_b7, aD, RR, seval]
 refine hK _ _ ?_; clear hK K
 refine bG fun F1 M1 hfr hH => ?_
 have g2 := hfr 2
 have g3 := hfr 3
 have g5 := hfr 5
 have g6 := hfr 6
 have g7 := hfr 7
 have g28 := hfr 28
 have g29 := hfr 29
 have g30 := hfr 30
 have gb1 := hH b1
 have gb2 := hH b2
 have gb7 := hH b7
 try simp only [nb1_b2, nb1_b7, nb2_b7, RR, seval] at g2 g3 g5 g6 g7 g28 g29 g30 gb1 gb2 gb7
 have f2 := g2; clear g2
 have f3 := g3; clear g3
 have f5 := g5; clear g5
 have f6 := g6; clear g6
 have f7 := g7; clear g7
 have f28 := g28; clear g28
 have f29 := g29; clear g29
 have f30 := g30; clear g30
 have hb1 := gb1; clear gb1
 have hb2 := gb2; clear gb2
 have hb7 := gb7; clear gb7
 clear hfr hH
 refine aQ ?_
 refine bY [2, 3, 5, 7, 28, 29] (fs.length) (fun k fr M => fr 30 = .int .i64 (k : Nat) ∧ M b1 = M1 b1 ∧ M b2 = M1 b2 ∧ ∃ v, M b7 = some (.rows 2 [[.int .i64 0, v]]) ∧ dW 5 v ((rM G wb (fs.take k)).map CF.row) M ∧ fr 6 = .int .i64 (wb + jX (fs.take k))) ⟨f30, rfl, rfl, .nsl, hb7, .inl ⟨rfl, rfl⟩, (by simp [jX, f6])⟩ ?_
 rintro k F2 M2 hk0 ⟨fx, gb1, gb2, ⟨v7, hb7, hown, f6⟩⟩ agx K0 hK0
 have f2 := (agx 2 rfl).trans f2
 have f3 := (agx 3 rfl).trans f3
 have f5 := (agx 5 rfl).trans f5
 have f7 := (agx 7 rfl).trans f7
 have f28 := (agx 28 rfl).trans f28
 have f29 := (agx 29 rfl).trans f29
 have f30 := fx; clear fx
 have hb1 := gb1.trans hb1
 have hb2 := gb2.trans hb2
 have ag0 := aW.refl [2, 3, 5, 7, 28, 29] F2
 have e0_b1 := gb1; clear gb1
 have e0_b2 := gb2; clear gb2
 clear agx
 refine aB fun K hK => ?_
 refine aA rfl ?_
 simp only [f29, f30, RR, seval]
 refine hK _ _ ?_; clear hK K
 refine aJ ?_
 refine aI _ rfl (fun hc => ?_) (fun hc => ?_)
 ·have hlt0 : k < fs.length := by have := aC hc; omega
  clear hc
  have hg0 := aH hlt0
  have hnn := hnl _ (bA hlt0)
  have hbb := hfs _ (bA hlt0)
  have hsc' := fun w => hsc w _ (bA hlt0)
  generalize fs[k] = f at hg0 hnn hbb hsc'
  have hg6 := zH hg0
  have htk := Av G fs wb k f hg0
  have hsum := Ku (l := fs.take k) fun x hx => by have := hfs x (List.mem_of_mem_take hx); omega
  have htl : (fs.take k).length ≤ fs.length := by rw [cC]; omega
  have hcl := Gh G (fs.take k) wb
  obtain ⟨w, hw⟩ : ∃ w, wb + jX (fs.take k) = w := ⟨_, rfl⟩
  have hwb2 : 0 ≤ w ∧ w ≤ 20000000000 := by omega
  rw [hw] at f6
  have esl : IntKind.wrap .i64 ((f.params.length : Int) + (f.locs.length : Int)) = ((f.params.length + f.locs.length : Nat) : Int) := by rw [aR _ (by omega)]; omega
  have ewl : IntKind.wrap .i64 (w + (f.params.length : Int)) = w + (f.params.length : Int) := by rw [aR _ (by omega)]
  have ews : IntKind.wrap .i64 (w + ((f.params.length + f.locs.length : Nat) : Int)) = wb + jX (fs.take (k + 1)) := by rw [aR _ (by omega), htk.2]; omega
  have hsv := fun m es => hown.smapV m es
  have hNp : f.params.Nodup := by simp only [gG] at hnn; exact (List.nodup_append.1 hnn).1
  simp only [gG] at hnn
  have hnn0 : ([] ++ f.params).Nodup := by rw [List.nil_append]; exact hNp
  refine aL ?_; try simp only [RR]
  refine aJ ?_
  refine aQ ?_
  refine aB fun K hK => ?_
  refine aA rfl ?_
  simp only [f28, f30, hg6, RR, seval]
  refine aK fun b9 hn9 => ?_
  have nb9_b1 : b9 ≠ b1 := fun e => by rw [e] at hn9; simp only [hb1, seval, reduceCtorEq] at hn9
  have nb1_b9 : b1 ≠ b9 := fun e => nb9_b1 e.symm
  have nb9_b2 : b9 ≠ b2 := fun e => by rw [e] at hn9; simp only [hb2, seval, reduceCtorEq] at hn9
  have nb2_b9 : b2 ≠ b9 := fun e => nb9_b2 e.symm
  have nb9_b7 : b9 ≠ b7 := fun e => by rw [e] at hn9; simp only [hb7, seval, reduceCtorEq] at hn9
  have nb7_b9 : b7 ≠ b9 := fun e => nb9_b7 e.symm
  simp only [RR, seval]
  refine hK _ _ ?_; clear hK K
  refine aB fun K hK => ?_
  refine aA rfl ?_
  simp only [f5, RR, seval]
  refine aK fun b35 hn35 => ?_
  have nb35_b1 : b35 ≠ b1 := fun e => by rw [e] at hn35; simp only [hb1, nb1_b9, RR, seval, reduceCtorEq] at hn35
  have nb1_b35 : b1 ≠ b35 := fun e => nb35_b1 e.symm
  have nb35_b2 : b35 ≠ b2 := fun e => by rw [e] at hn35; simp only [hb2, nb2_b9, RR, seval, reduceCtorEq] at hn35
  have nb2_b35 : b2 ≠ b35 := fun e => nb35_b2 e.symm
  have nb35_b7 : b35 ≠ b7 := fun e => by rw [e] at hn35; simp only [hb7, nb7_b9, RR, seval, reduceCtorEq] at hn35
  have nb7_b35 : b7 ≠ b35 := fun e => nb35_b7 e.symm
  have nb35_b9 : b35 ≠ b9 := fun e => by rw [e] at hn35; simp only [RR, seval, reduceCtorEq] at hn35
  have nb9_b35 : b9 ≠ b35 := fun e => nb35_b9 e.symm
  simp only [RR, seval]
  refine aK fun b10 hn10 => ?_
  have nb10_b1 : b10 ≠ b1 := fun e => by rw [e] at hn10; simp only [hb1, nb1_b9, nb1_b35, RR, seval, reduceCtorEq] at hn10
  have nb1_b10 : b1 ≠ b10 := fun e => nb10_b1 e.symm
  have nb10_b2 : b10 ≠ b2 := fun e => by rw [e] at hn10; simp only [hb2, nb2_b9, nb2_b35, RR, seval, reduceCtorEq] at hn10
  have nb2_b10 : b2 ≠ b10 := fun e => nb10_b2 e.symm
  have nb10_b7 : b10 ≠ b7 := fun e => by rw [e] at hn10; simp only [hb7, nb7_b9, nb7_b35, RR, seval, reduceCtorEq] at hn10
  have nb7_b10 : b7 ≠ b10 := fun e => nb10_b7 e.symm
  have nb10_b9 : b10 ≠ b9 := fun e => by rw [e] at hn10; simp only [nb9_b35, RR, seval, reduceCtorEq] at hn10
  have nb9_b10 : b9 ≠ b10 := fun e => nb10_b9 e.symm
  have nb10_b35 : b10 ≠ b35 := fun e => by rw [e] at hn10; simp only [RR, seval, reduceCtorEq] at hn10
  have nb35_b10 : b35 ≠ b10 := fun e => nb10_b35 e.symm
  simp only [RR, seval]
  refine hK _ _ ?_; clear hK K
  refine aB fun K hK => ?_
  refine aA rfl ?_
  simp only [nb9_b35, nb9_b10, aD, esl, RR, seval]
  refine hK _ _ ?_; clear hK K
  refine aJ ?_
  refine aB fun K hK => ?_
  refine aA rfl ?_
  simp only [nb9_b35, nb9_b10, aD, RR, seval]
  refine hK _ _ ?_; clear hK K
  refine bG fun F3 M3 hfr hH => ?_
  have g2 := hfr 2
  have g3 := hfr 3
  have g5 := hfr 5
  have g6 := hfr 6
  have g7 := hfr 7
  have g9 := hfr 9
  have g10 := hfr 10
  have g11 := hfr 11
  have g28 := hfr 28
  have g29 := hfr 29
  have g30 := hfr 30
  have g45 := hfr 45
  have g46 := hfr 46
  have g47 := hfr 47
  have gb1 := hH b1
  have gb2 := hH b2
  have gb7 := hH b7
  have gb9 := hH b9
  have gb35 := hH b35
  have gb10 := hH b10
  try simp only [f2, f3, f5, f7, f28, f29, f30, f6, hb1, hb2, hb7, nb1_b9, nb2_b9, nb7_b9, nb1_b35, nb2_b35, nb7_b35, nb9_b35, nb1_b10, nb2_b10, nb7_b10, nb9_b10, nb35_b10, RR, seval] at g2 g3 g5 g6 g7 g9 g10 g11 g28 g29 g30 g45 g46 g47 gb1 gb2 gb7 gb9 gb35 gb10
  have ag0 : aW [2, 3, 5, 7, 28, 29] F2 F3 := aW.same hfr (by repeat (first | exact ag0 | refine aW.upd rfl ?_))
  have e0_b1 := (hH b1).trans (by first | exact e0_b1 | (simp only [nb1_b9, nb1_b35, nb1_b10, aG, seval]; first | done | exact e0_b1))
  have e0_b2 := (hH b2).trans (by first | exact e0_b2 | (simp only [nb2_b9, nb2_b35, nb2_b10, aG, seval]; first | done | exact e0_b2))
  have ho9 : off v7 b9 := hown.new hn9
  have ho35 := hown.new2 hn35 hn9
  have hown : dW 5 v7 ((rM G wb (fs.take k)).map CF.row) M3 := Bu hown fun b o hb => by
   have n9 : b ≠ b9 := fun e => by rw [e, hn9] at hb; cases hb
   have n35 : b ≠ b35 := fun e => by rw [e] at n9 hb; simp only [cG _ _ n9, hb, reduceCtorEq] at hn35
   have n10 : b ≠ b10 := fun e => by rw [e] at n9 n35 hb; simp only [cG _ _ n9, cG _ _ n35, hb, reduceCtorEq] at hn10
   rw [hH]; simp only [cG _ _ n9, cG _ _ n35, cG _ _ n10]; exact hb
  have f2 := g2; clear g2
  have f3 := g3; clear g3
  have f5 := g5; clear g5
  have f6 := g6; clear g6
  have f7 := g7; clear g7
  have f9 := g9; clear g9
  have f10 := g10; clear g10
  have f11 := g11; clear g11
  have f28 := g28; clear g28
  have f29 := g29; clear g29
  have f30 := g30; clear g30
  have f45 := g45; clear g45
  have f46 := g46; clear g46
  have f47 := g47; clear g47
  have hb1 := gb1; clear gb1
  have hb2 := gb2; clear gb2
  have hb7 := gb7; clear gb7
  have hb9 := gb9; clear gb9
  have hb35 := gb35; clear gb35
  have hb10 := gb10; clear gb10
  clear hfr hH
  refine aQ ?_
  refine bY [2, 3, 5, 6, 7, 9, 10, 11, 28, 29, 30, 45, 46] (f.params.length) (fun j fr M => fr 47 = .int .i64 (j : Nat) ∧ M b1 = M3 b1 ∧ M b2 = M3 b2 ∧ M b7 = M3 b7 ∧ M b9 = M3 b9 ∧ M b10 = M3 b10 ∧ M b35 = some (.amap ((mB w (f.params.take j)).map mQ)) ∧ dW 5 v7 ((rM G wb (fs.take k)).map CF.row) M) ⟨f47, rfl, rfl, rfl, rfl, rfl, (by rw [hb35]; rfl), hown⟩ ?_
  rintro j F4 M4 hk2 ⟨fx, gb1, gb2, gb7, gb9, gb10, ⟨hb35, hown⟩⟩ agx K2 hK2
  have f2 := (agx 2 rfl).trans f2
  have f3 := (agx 3 rfl).trans f3
  have f5 := (agx 5 rfl).trans f5
  have f6 := (agx 6 rfl).trans f6
  have f7 := (agx 7 rfl).trans f7
  have f9 := (agx 9 rfl).trans f9
  have f10 := (agx 10 rfl).trans f10
  have f11 := (agx 11 rfl).trans f11
  have f28 := (agx 28 rfl).trans f28
  have f29 := (agx 29 rfl).trans f29
  have f30 := (agx 30 rfl).trans f30
  have f45 := (agx 45 rfl).trans f45
  have f46 := (agx 46 rfl).trans f46
  have f47 := fx; clear fx
  have hb1 := gb1.trans hb1
  have hb2 := gb2.trans hb2
  have hb7 := gb7.trans hb7
  have hb9 := gb9.trans hb9
  have hb10 := gb10.trans hb10
  have ag0 : aW [2, 3, 5, 7, 28, 29] F2 F4 := aW.sub agx rfl ag0
  have e0_b1 := gb1.trans e0_b1
  have e0_b2 := gb2.trans e0_b2
  have ag2 := aW.refl [2, 3, 5, 6, 7, 9, 10, 11, 28, 29, 30, 45, 46] F4
  have e2_b1 := gb1; clear gb1
  have e2_b2 := gb2; clear gb2
  have e2_b7 := gb7; clear gb7
  have e2_b9 := gb9; clear gb9
  have e2_b10 := gb10; clear gb10
  clear agx
  refine aB fun K hK => ?_
  refine aA rfl ?_
  simp only [f46, f47, RR, seval]
  refine hK _ _ ?_; clear hK K
  refine aJ ?_
  refine aI _ rfl (fun hc => ?_) (fun hc => ?_)
  ·have hlt2 : j < f.params.length := by have := aC hc; omega
   clear hc
   have hg0 := aH hlt2
   generalize f.params[j] = s at hg0
   have hg := Iz hg0
   have hni := mN hnn0 hg0
   have hput := wA (mB w (f.params.take j)) s (w + (j : Int)) 0 (by rw [iM]; simpa using hni)
   have htk := oQ f.params w j s hg0
   rw [← htk] at hput
   have ej : IntKind.wrap .i64 (w + (j : Int)) = w + (j : Int) := by rw [aR _ (by omega)]
   generalize (mB w (f.params.take j)).map mQ = es at hput hb35
   refine aL ?_; try simp only [RR]
   refine aJ ?_
   refine aQ ?_
   refine aB fun K hK => ?_
   refine aA rfl ?_
   simp only [f45, f47, hg, RR, seval]
   refine hK _ _ ?_; clear hK K
   refine aA rfl ?_
   simp only [f6, f10, hb10, hb35, hput, ej, RR, seval]
   refine aA rfl ?_
   simp only [f47, RR, seval]
   try rw [aR _ (by omega)]
   refine hK2 _ _ hlt2 ⟨by first | rfl | (simp only [aG, seval]; rfl), (by first | exact e2_b1 | (simp only [nb1_b35, aG, seval]; first | done | exact e2_b1)), (by first | exact e2_b2 | (simp only [nb2_b35, aG, seval]; first | done | exact e2_b2)), (by first | exact e2_b7 | (simp only [nb7_b35, aG, seval]; first | done | exact e2_b7)), (by first | exact e2_b9 | (simp only [nb9_b35, aG, seval]; first | done | exact e2_b9)), (by first | exact e2_b10 | (simp only [nb10_b35, aG, seval]; first | done | exact e2_b10)), (by first | exact bR _ _ _ | (simp only [aG, seval]; first | rfl | done)), hown.off ho35 _⟩ (by repeat (first | exact ag2 | refine aW.upd rfl ?_))
  have hkn2 : j = f.params.length := by have := aF hc; omega
  clear hc
  rw [hkn2, List.take_length] at hb35
  refine bH ?_; simp only [RR, seval]
  refine aJ ?_
  refine aB fun K hK => ?_
  refine aA rfl ?_
  simp only [f9, hb9, aD, RR, seval]
  refine hK _ _ ?_; clear hK K
  refine bG fun F5 M5 hfr hH => ?_
  have g2 := hfr 2
  have g3 := hfr 3
  have g5 := hfr 5
  have g6 := hfr 6
  have g7 := hfr 7
  have g9 := hfr 9
  have g10 := hfr 10
  have g11 := hfr 11
  have g28 := hfr 28
  have g29 := hfr 29
  have g30 := hfr 30
  have g45 := hfr 45
  have g46 := hfr 46
  have g47 := hfr 47
  have g61 := hfr 61
  have g62 := hfr 62
  have g63 := hfr 63
  have gb1 := hH b1
  have gb2 := hH b2
  have gb7 := hH b7
  have gb9 := hH b9
  have gb10 := hH b10
  have gb35 := hH b35
  try simp only [f2, f3, f5, f6, f7, f9, f10, f11, f28, f29, f30, f45, f46, f47, hb1, hb2, hb7, hb9, hb10, hb35, RR, seval] at g2 g3 g5 g6 g7 g9 g10 g11 g28 g29 g30 g45 g46 g47 g61 g62 g63 gb1 gb2 gb7 gb9 gb10 gb35
  have ag0 : aW [2, 3, 5, 7, 28, 29] F2 F5 := aW.same hfr (by repeat (first | exact ag0 | refine aW.upd rfl ?_))
  have e0_b1 := (hH b1).trans (by first | exact e0_b1 | (simp only [nb2_b1, nb1_b2, nb7_b1, nb1_b7, nb7_b2, nb2_b7, nb9_b1, nb1_b9, nb9_b2, nb2_b9, nb9_b7, nb7_b9, nb35_b1, nb1_b35, nb35_b2, nb2_b35, nb35_b7, nb7_b35, nb35_b9, nb9_b35, nb10_b1, nb1_b10, nb10_b2, nb2_b10, nb10_b7, nb7_b10, nb10_b9, nb9_b10, nb10_b35, nb35_b10, aG, seval]; first | done | exact e0_b1))
  have e0_b2 := (hH b2).trans (by first | exact e0_b2 | (simp only [nb2_b1, nb1_b2, nb7_b1, nb1_b7, nb7_b2, nb2_b7, nb9_b1, nb1_b9, nb9_b2, nb2_b9, nb9_b7, nb7_b9, nb35_b1, nb1_b35, nb35_b2, nb2_b35, nb35_b7, nb7_b35, nb35_b9, nb9_b35, nb10_b1, nb1_b10, nb10_b2, nb2_b10, nb10_b7, nb7_b10, nb10_b9, nb9_b10, nb10_b35, nb35_b10, aG, seval]; first | done | exact e0_b2))
  have hown := hown.same hH
  have f2 := g2; clear g2
  have f3 := g3; clear g3
  have f5 := g5; clear g5
  have f6 := g6; clear g6
  have f7 := g7; clear g7
  have f9 := g9; clear g9
  have f10 := g10; clear g10
  have f11 := g11; clear g11
  have f28 := g28; clear g28
  have f29 := g29; clear g29
  have f30 := g30; clear g30
  have f45 := g45; clear g45
  have f46 := g46; clear g46
  have f47 := g47; clear g47
  have f61 := g61; clear g61
  have f62 := g62; clear g62
  have f63 := g63; clear g63
  have hb1 := gb1; clear gb1
  have hb2 := gb2; clear gb2
  have hb7 := gb7; clear gb7
  have hb9 := gb9; clear gb9
  have hb10 := gb10; clear gb10
  have hb35 := gb35; clear gb35
  clear hfr hH
  refine aQ ?_
  refine bY [2, 3, 5, 6, 7, 9, 10, 11, 28, 29, 30, 45, 46, 47, 61, 62] (f.locs.length) (fun j fr M => fr 63 = .int .i64 (j : Nat) ∧ M b1 = M5 b1 ∧ M b2 = M5 b2 ∧ M b7 = M5 b7 ∧ M b9 = M5 b9 ∧ M b10 = M5 b10 ∧ M b35 = some (.amap ((mB w f.params ++ mB (w + (f.params.length : Int)) (f.locs.take j)).map mQ)) ∧ dW 5 v7 ((rM G wb (fs.take k)).map CF.row) M) ⟨f63, rfl, rfl, rfl, rfl, rfl, (by rw [hb35]; simp [mB]), hown⟩ ?_
  rintro j F6 M6 hk4 ⟨fx, gb1, gb2, gb7, gb9, gb10, ⟨hb35, hown⟩⟩ agx K4 hK4
  have f2 := (agx 2 rfl).trans f2
  have f3 := (agx 3 rfl).trans f3
  have f5 := (agx 5 rfl).trans f5
  have f6 := (agx 6 rfl).trans f6
  have f7 := (agx 7 rfl).trans f7
  have f9 := (agx 9 rfl).trans f9
  have f10 := (agx 10 rfl).trans f10
  have f11 := (agx 11 rfl).trans f11
  have f28 := (agx 28 rfl).trans f28
  have f29 := (agx 29 rfl).trans f29
  have f30 := (agx 30 rfl).trans f30
  have f45 := (agx 45 rfl).trans f45
  have f46 := (agx 46 rfl).trans f46
  have f47 := (agx 47 rfl).trans f47
  have f61 := (agx 61 rfl).trans f61
  have f62 := (agx 62 rfl).trans f62
  have f63 := fx; clear fx
  have hb1 := gb1.trans hb1
  have hb2 := gb2.trans hb2
  have hb7 := gb7.trans hb7
  have hb9 := gb9.trans hb9
  have hb10 := gb10.trans hb10
  have ag0 : aW [2, 3, 5, 7, 28, 29] F2 F6 := aW.sub agx rfl ag0
  have e0_b1 := gb1.trans e0_b1
  have e0_b2 := gb2.trans e0_b2
  have ag4 := aW.refl [2, 3, 5, 6, 7, 9, 10, 11, 28, 29, 30, 45, 46, 47, 61, 62] F6
  have e4_b1 := gb1; clear gb1
  have e4_b2 := gb2; clear gb2
  have e4_b7 := gb7; clear gb7
  have e4_b9 := gb9; clear gb9
  have e4_b10 := gb10; clear gb10
  clear agx
  refine aB fun K hK => ?_
  refine aA rfl ?_
  simp only [f62, f63, RR, seval]
  refine hK _ _ ?_; clear hK K
  refine aJ ?_
  refine aI _ rfl (fun hc => ?_) (fun hc => ?_)
  ·have hlt4 : j < f.locs.length := by have := aC hc; omega
   clear hc
   have hg0 := aH hlt4
   generalize f.locs[j] = s at hg0
   have hg := Iz hg0
   have hni := mN hnn hg0
   have ej : IntKind.wrap .i64 (w + (f.params.length : Int) + (j : Int)) = w + (f.params.length : Int) + (j : Int) := by rw [aR _ (by omega)]
   have hput := wA (mB w f.params ++ mB (w + (f.params.length : Int)) (f.locs.take j)) s (w + (f.params.length : Int) + (j : Int)) 0 (by rw [List.map_append, iM, iM]; exact hni)
   have htk := oQ f.locs (w + (f.params.length : Int)) j s hg0
   rw [List.append_assoc, ← htk] at hput
   generalize (mB w f.params ++ mB (w + (f.params.length : Int)) (f.locs.take j)).map mQ = es at hput hb35
   refine aL ?_; try simp only [RR]
   refine aJ ?_
   refine aQ ?_
   refine aB fun K hK => ?_
   refine aA rfl ?_
   simp only [f61, f63, hg, RR, seval]
   refine hK _ _ ?_; clear hK K
   refine aA rfl ?_
   simp only [f6, f9, f10, hb9, hb10, hb35, aD, ewl, hput, ej, RR, seval]
   refine aA rfl ?_
   simp only [f63, RR, seval]
   try rw [aR _ (by omega)]
   refine hK4 _ _ hlt4 ⟨by first | rfl | (simp only [aG, seval]; rfl), (by first | exact e4_b1 | (simp only [nb1_b35, aG, seval]; first | done | exact e4_b1)), (by first | exact e4_b2 | (simp only [nb2_b35, aG, seval]; first | done | exact e4_b2)), (by first | exact e4_b7 | (simp only [nb7_b35, aG, seval]; first | done | exact e4_b7)), (by first | exact e4_b9 | (simp only [nb9_b35, aG, seval]; first | done | exact e4_b9)), (by first | exact e4_b10 | (simp only [nb10_b35, aG, seval]; first | done | exact e4_b10)), (by first | exact bR _ _ _ | (simp only [aG, seval]; first | rfl | done)), hown.off ho35 _⟩ (by repeat (first | exact ag4 | refine aW.upd rfl ?_))
  have hkn4 : j = f.locs.length := by have := aF hc; omega
  clear hc
  rw [hkn4, List.take_length] at hb35
  have hin : mB w f.params ++ mB (w + (f.params.length : Int)) f.locs = Yo w f := by unfold Yo; rw [Kr]
  rw [hin] at hb35
  refine bH ?_; simp only [RR, seval]
  refine bG fun F7 M7 hfr hH => ?_
  have g2 := hfr 2
  have g3 := hfr 3
  have g5 := hfr 5
  have g6 := hfr 6
  have g7 := hfr 7
  have g9 := hfr 9
  have g10 := hfr 10
  have g11 := hfr 11
  have g28 := hfr 28
  have g29 := hfr 29
  have g30 := hfr 30
  have g45 := hfr 45
  have g46 := hfr 46
  have g47 := hfr 47
  have g61 := hfr 61
  have g62 := hfr 62
  have g63 := hfr 63
  have gb1 := hH b1
  have gb2 := hH b2
  have gb7 := hH b7
  have gb9 := hH b9
  have gb10 := hH b10
  have gb35 := hH b35
  try simp only [f2, f3, f5, f6, f7, f9, f10, f11, f28, f29, f30, f45, f46, f47, f61, f62, f63, hb1, hb2, hb7, hb9, hb10, hb35, RR, seval] at g2 g3 g5 g6 g7 g9 g10 g11 g28 g29 g30 g45 g46 g47 g61 g62 g63 gb1 gb2 gb7 gb9 gb10 gb35
  have ag0 : aW [2, 3, 5, 7, 28, 29] F2 F7 := aW.same hfr (by repeat (first | exact ag0 | refine aW.upd rfl ?_))
  have e0_b1 := (hH b1).trans (by first | exact e0_b1 | (simp only [nb2_b1, nb1_b2, nb7_b1, nb1_b7, nb7_b2, nb2_b7, nb9_b1, nb1_b9, nb9_b2, nb2_b9, nb9_b7, nb7_b9, nb35_b1, nb1_b35, nb35_b2, nb2_b35, nb35_b7, nb7_b35, nb35_b9, nb9_b35, nb10_b1, nb1_b10, nb10_b2, nb2_b10, nb10_b7, nb7_b10, nb10_b9, nb9_b10, nb10_b35, nb35_b10, aG, seval]; first | done | exact e0_b1))
  have e0_b2 := (hH b2).trans (by first | exact e0_b2 | (simp only [nb2_b1, nb1_b2, nb7_b1, nb1_b7, nb7_b2, nb2_b7, nb9_b1, nb1_b9, nb9_b2, nb2_b9, nb9_b7, nb7_b9, nb35_b1, nb1_b35, nb35_b2, nb2_b35, nb35_b7, nb7_b35, nb35_b9, nb9_b35, nb10_b1, nb1_b10, nb10_b2, nb2_b10, nb10_b7, nb7_b10, nb10_b9, nb9_b10, nb10_b35, nb35_b10, aG, seval]; first | done | exact e0_b2))
  have hown := hown.same hH
  have f2 := g2; clear g2
  have f3 := g3; clear g3
  have f5 := g5; clear g5
  have f6 := g6; clear g6
  have f7 := g7; clear g7
  have f9 := g9; clear g9
  have f10 := g10; clear g10
  have f11 := g11; clear g11
  have f28 := g28; clear g28
  have f29 := g29; clear g29
  have f30 := g30; clear g30
  have f45 := g45; clear g45
  have f46 := g46; clear g46
  have f47 := g47; clear g47
  have f61 := g61; clear g61
  have f62 := g62; clear g62
  have f63 := g63; clear g63
  have hb1 := gb1; clear gb1
  have hb2 := gb2; clear gb2
  have hb7 := gb7; clear gb7
  have hb9 := gb9; clear gb9
  have hb10 := gb10; clear gb10
  have hb35 := gb35; clear gb35
  clear hfr hH
  refine pE hb35 ?_
  refine bG fun F8 M8 hfr hH => ?_
  have g2 := hfr 2
  have g3 := hfr 3
  have g5 := hfr 5
  have g6 := hfr 6
  have g7 := hfr 7
  have g9 := hfr 9
  have g10 := hfr 10
  have g11 := hfr 11
  have g28 := hfr 28
  have g29 := hfr 29
  have g30 := hfr 30
  have g45 := hfr 45
  have g46 := hfr 46
  have g47 := hfr 47
  have g61 := hfr 61
  have g62 := hfr 62
  have g63 := hfr 63
  have gb1 := hH b1
  have gb2 := hH b2
  have gb7 := hH b7
  have gb9 := hH b9
  have gb10 := hH b10
  try simp only [SM, List.map_cons, List.map_nil, Option.map_some, f2, f3, f5, f6, f7, f9, f10, f11, f28, f29, f30, f45, f46, f47, f61, f62, f63, hb1, hb2, hb7, hb9, hb10, nb1_b35, nb2_b35, nb7_b35, nb9_b35, nb10_b35, hsv, seval] at g2 g3 g5 g6 g7 g9 g10 g11 g28 g29 g30 g45 g46 g47 g61 g62 g63 gb1 gb2 gb7 gb9 gb10
  have ag0 : aW [2, 3, 5, 7, 28, 29] F2 F8 := aW.cons (g2.trans (f2.symm.trans (ag0 2 rfl))) <| aW.cons (g3.trans (f3.symm.trans (ag0 3 rfl))) <| aW.cons (g5.trans (f5.symm.trans (ag0 5 rfl))) <| aW.cons (g7.trans (f7.symm.trans (ag0 7 rfl))) <| aW.cons (g28.trans (f28.symm.trans (ag0 28 rfl))) <| aW.cons (g29.trans (f29.symm.trans (ag0 29 rfl))) <| aW.nil _ _
  have e0_b1 := by first | exact (hH b1).trans (by first | exact e0_b1 | (simp only [nb1_b35, seval]; first | done | exact e0_b1)) | exact gb1.trans (hb1.symm.trans e0_b1)
  have e0_b2 := by first | exact (hH b2).trans (by first | exact e0_b2 | (simp only [nb2_b35, seval]; first | done | exact e0_b2)) | exact gb2.trans (hb2.symm.trans e0_b2)
  have hown := hown.smapF hb35 hH
  have f2 := g2; clear g2
  have f3 := g3; clear g3
  have f5 := g5; clear g5
  have f6 := g6; clear g6
  have f7 := g7; clear g7
  have f9 := g9; clear g9
  have f10 := g10; clear g10
  have f11 := g11; clear g11
  have f28 := g28; clear g28
  have f29 := g29; clear g29
  have f30 := g30; clear g30
  have f45 := g45; clear g45
  have f46 := g46; clear g46
  have f47 := g47; clear g47
  have f61 := g61; clear g61
  have f62 := g62; clear g62
  have f63 := g63; clear g63
  have hb1 := gb1; clear gb1
  have hb2 := gb2; clear gb2
  have hb7 := gb7; clear gb7
  have hb9 := gb9; clear gb9
  have hb10 := gb10; clear gb10
  clear hfr hH
  have ho7 := hown.offsz hb7 (by decide)
  have ho10 := hown.offsz hb10 (by decide)
  refine aB fun K hK => ?_
  refine bC (fun x => x ≠ b7 ∧ x ≠ b9 ∧ x ≠ b10) [(0, 3), (1, 0), (2, 3), (3, 0), (4, 3), (5, 3), (6, 3), (7, 3), (8, 0), (9, 1), (10, 3), (11, 1), (12, 1), (13, 3), (14, 2), (15, 1), (16, 3)] [(17, 1)] dB (by kernel_rfl) rfl rfl ?_
  simp only [bW, dJ, f6, f7, f9, f10, f11, hb7, hb9, hb10, nb9_b7, nb7_b9, nb7_b10, nb9_b10, aD, RR, seval]
  refine aO (hsc' w) ?_
  simp only [RR, seval]
  refine kK hown (by simp only [aD, bX, List.length_nil]; omega) (fun b e => by first | trivial | (repeat' apply And.intro) <;> (intro c; subst c; first | exact ho7 _ _ e | exact ho9 _ _ e | exact ho10 _ _ e | exact hown.nb' hb1 (by decide) e | exact hown.nb' hb2 (by decide) e)) fun v21 M9 hown' hk' hg' => ?_
  have ho7' := hg' b7 ho7 (by rw [hb7]; exact cB _)
  have ho9' := hg' b9 ho9 (by rw [hb9]; exact cB _)
  have ho10' := hg' b10 ho10 (by rw [hb10]; exact cB _)
  simp only [f7, RR, seval]
  have gb1 := hk' b1 _ hb1 (by first | exact (hown).nb' hb1 (by decide) | exact ho1 _ _ | assumption | (intro e; simp_all))
  have e0_b1 := (gb1.trans hb1.symm).trans e0_b1
  have hb1 := gb1; clear gb1
  have gb2 := hk' b2 _ hb2 (by first | exact (hown).nb' hb2 (by decide) | exact ho2 _ _ | assumption | (intro e; simp_all))
  have e0_b2 := (gb2.trans hb2.symm).trans e0_b2
  have hb2 := gb2; clear gb2
  have gb7 := hk' b7 _ hb7 (by first | exact (hown).nb' hb7 (by decide) | exact ho7 _ _ | assumption | (intro e; simp_all))
  have hb7 := gb7; clear gb7
  have gb9 := hk' b9 _ hb9 (by first | exact (hown).nb' hb9 (by decide) | exact ho9 _ _ | assumption | (intro e; simp_all))
  have hb9 := gb9; clear gb9
  have gb10 := hk' b10 _ hb10 (by first | exact (hown).nb' hb10 (by decide) | exact ho10 _ _ | assumption | (intro e; simp_all))
  have hb10 := gb10; clear gb10
  have hce := hown'.cells; have hoe := hown'.one1
  try simp only [hce, hoe, Option.bind_some, List.drop, hb7, RR, seval]
  refine hK _ _ ?_; clear hK K
  refine aA rfl ?_
  simp only [f6, f11, ews, RR, seval]
  refine aA rfl ?_
  simp only [f30, RR, seval]
  try rw [aR _ (by omega)]
  refine hK0 _ _ hlt0 ⟨by first | rfl | (simp only [aG, seval]; rfl), (by first | exact e0_b1 | (simp only [nb1_b7, aG, seval]; first | done | exact e0_b1)), (by first | exact e0_b2 | (simp only [nb2_b7, aG, seval]; first | done | exact e0_b2)), v21, (by first | exact bR _ _ _ | (simp only [aG, seval]; first | rfl | done)), (by rw [htk.1, List.map_append, hw]; exact hown'.off ho7' _), (by simp only [aG, seval])⟩ (by repeat (first | exact ag0 | refine aW.upd rfl ?_))
 have hkn0 : k = fs.length := by have := aF hc; omega
 clear hc
 rw [hkn0, List.take_length] at hown f6
 refine bH ?_; simp only [RR, seval]
 refine aJ ?_
 have h0 : M2 b7 = some (.rows 2 [[AV.int .i64 0] ++ v7 :: []]) := hb7
 refine tN hown h0 (fun x hx => by simp only [List.mem_singleton] at hx; subst hx; exact eI rfl) (fun x hx => by cases hx) (hown.offsz hb7 (by decide)) fun FS HS hfr hb7 hkp => ?_
 have f2 : FS 2 = .ptr 2 b2 0 0 := (hfr 2 (by simp only [aG, f2, seval]; exact eI rfl)).trans (by simp only [aG, f2, seval])
 have f6 : FS 6 = .int .i64 (wb + jX fs) := (hfr 6 (by simp only [aG, f6, seval]; exact eI rfl)).trans (by simp only [aG, f6, seval])
 have f7 : FS 7 = .ptr 2 b7 0 0 := (hfr 7 (by simp only [aG, f7, seval]; exact eI rfl)).trans (by simp only [aG, f7, seval])
 have hb2 := hkp b2 _ _ nb2_b7 (hown.offsz hb2 (by decide)) (fun r hr x hx => by simp only [List.mem_singleton] at hr; subst hr; simp only [List.mem_cons, List.not_mem_nil, or_false] at hx; rcases hx with rfl | rfl <;> exact eI rfl) hb2
 have hb7 : HS b7 = some (.rows 2 [[.int .i64 0, .isl 5 ((rM G wb fs).map CF.row)]]) := hb7
 clear hkp hfr h0
 refine aB fun K hK => ?_
 refine aA rfl ?_
 simp only [f6, RR, seval]
 refine hK _ _ ?_; clear hK K
 refine aI _ rfl (fun hc24 => ?_) (fun hc24 => ?_)
 ·rw [if_neg (show ¬ wb + jX fs ≤ 32768 by have := aC hc24; omega)]
  refine aB fun K hK => ?_
  refine aA rfl ?_
  simp only [f2, hb2, RR, seval]
  refine hK _ _ ?_; clear hK K
  refine aP ?_; simp only [aV, aM, bE, f2, RR, seval]
  exact aU.turn (jW.sub (lG.tup (eQ.cons (lG.agg (eQ.cons (lG.refl _) (eQ.cons (lG.nsl 5) (eQ.refl _)))) (eQ.refl _)))) (aU.pure rfl)
 rw [if_pos (show wb + jX fs ≤ 32768 by have := aF hc24; omega)]
 refine aL ?_; try simp only [RR]
 refine aB fun K hK => ?_
 refine aA rfl ?_
 simp only [f7, f6, hb7, RR, seval]
 refine hK _ _ ?_; clear hK K
 refine aB fun K hK => ?_
 refine aA rfl ?_
 simp only [f2, f7, hb2, nb2_b7, RR, seval]
 refine hK _ _ ?_; clear hK K
 refine aP ?_; simp only [aV, aM, bE, f2, RR, seval]
 refine aU.pure ?_
 rfl
end Go.Proofs.YtnfbbjhdflhmjaaDoor
