/- Chapter 19, the program's: names are looked up; expressions and statements without names. -/
import Derived.Test.YtnfbbjhdflhmjaaDoorGOa
import Derived.Test.YtnfbbjhdflhmjaaDoorAl4
import Derived.Test.YtnfbbjhdflhmjaaDoorSy2
set_option linter.unusedSimpArgs false
set_option linter.unusedVariables false
set_option maxRecDepth 10000
namespace Go.Al
theorem Bu {sz : Nat} {v : AV} {rows : List (List AV)} {H H' : Hp} (h : dW sz v rows H) (hk : ∀ b o, H b = some o → H' b = some o) : dW sz v rows H' := by
 rcases h with g | ⟨b, g1, g2⟩
 ·exact .inl g
 exact .inr ⟨b, g1, hk _ _ g2⟩
theorem Kt : ∀ l : List Ex, l.length ≤ mD l
 | [] => by simp [mD]
 | e :: l => by have := Kt l; have := e.sz_eq; simp only [bX, mD]; omega
theorem Ks : ∀ l : List Sm, l.length ≤ jD l
 | [] => by simp [jD]
 | e :: l => by have := Ks l; have := e.sz_eq; simp only [bX, jD]; omega
end Go.Al
namespace Go.Proofs.YtnfbbjhdflhmjaaDoor
open Go.Al
theorem Aw (G I : List Tq) (s : dL) : dG cO 52 [Pa G I, .str s] (.agg [.int .i64 (Mw G I s).1, .int .i64 (Mw G I s).2]) := by
 have hG := sU s G 0
 have hI := sU s I 0
 have zG := cA (G.map mQ)
 have zI := cA (I.map mQ)
 unfold Mw Pa Ud
 rcases hI with ⟨h1, h2⟩ | ⟨j, t, h1, h2⟩
 ·rcases hG with ⟨h3, h4⟩ | ⟨j', t', h3, h4⟩
  all_goals
   rw [h1, h3]
   refine bD 20 [.cell 4 82] Tryd.func52 rfl rfl rfl rfl ?_
   refine aB fun K hK => ?_
   refine aA rfl ?_
   simp only [Option.getD_some, Option.getD_none, RR, seval]
   refine aK fun b2 hn2 => ?_
   simp only [RR, seval]
   refine aK fun b4 hn4 => ?_
   have nb4_b2 : b4 ≠ b2 := fun e => by rw [e] at hn4; simp only [RR, seval, reduceCtorEq] at hn4
   have nb2_b4 : b2 ≠ b4 := fun e => nb4_b2 e.symm
   simp only [RR, seval]
   refine hK _ _ ?_; clear hK K
   refine aJ ?_
   refine aB fun K hK => ?_
   refine aA rfl ?_
   simp only [nb2_b4, zI, h2, Option.getD_some, Option.getD_none, Option.isSome_none, RR, seval]
   refine aK fun b5 hn5 => ?_
   have nb5_b2 : b5 ≠ b2 := fun e => by rw [e] at hn5; simp only [nb2_b4, RR, seval, reduceCtorEq] at hn5
   have nb2_b5 : b2 ≠ b5 := fun e => nb5_b2 e.symm
   have nb5_b4 : b5 ≠ b4 := fun e => by rw [e] at hn5; simp only [RR, seval, reduceCtorEq] at hn5
   have nb4_b5 : b4 ≠ b5 := fun e => nb5_b4 e.symm
   simp only [RR, seval]
   refine hK _ _ ?_; clear hK K
   refine aB fun K hK => ?_
   refine aA rfl ?_
   simp only [Option.getD_some, Option.getD_none, RR, seval]
   refine hK _ _ ?_; clear hK K
   refine aI false rfl (fun hc => by cases hc) (fun _ => ?_)
   refine aL ?_; try simp only [RR]
   refine aB fun K hK => ?_
   refine aA rfl ?_
   simp only [nb2_b4, nb2_b5, nb4_b5, zG, h4, Option.getD_some, Option.getD_none, RR, seval]
   refine hK _ _ ?_; clear hK K
   refine aP ?_; simp only [aV, aM, bE, Option.getD_some, Option.getD_none, RR, seval]
   refine aU.pure ?_
   rfl
 rw [h1]
 refine bD 20 [.cell 4 82] Tryd.func52 rfl rfl rfl rfl ?_
 refine aB fun K hK => ?_
 refine aA rfl ?_
 simp only [RR, seval]
 refine aK fun b2 hn2 => ?_
 simp only [RR, seval]
 refine aK fun b4 hn4 => ?_
 have nb4_b2 : b4 ≠ b2 := fun e => by rw [e] at hn4; simp only [RR, seval, reduceCtorEq] at hn4
 have nb2_b4 : b2 ≠ b4 := fun e => nb4_b2 e.symm
 simp only [RR, seval]
 refine hK _ _ ?_; clear hK K
 refine aJ ?_
 refine aB fun K hK => ?_
 refine aA rfl ?_
 simp only [nb2_b4, zI, h2, Option.getD_some, Option.isSome_some, RR, seval]
 refine aK fun b5 hn5 => ?_
 have nb5_b2 : b5 ≠ b2 := fun e => by rw [e] at hn5; simp only [nb2_b4, RR, seval, reduceCtorEq] at hn5
 have nb2_b5 : b2 ≠ b5 := fun e => nb5_b2 e.symm
 have nb5_b4 : b5 ≠ b4 := fun e => by rw [e] at hn5; simp only [RR, seval, reduceCtorEq] at hn5
 have nb4_b5 : b4 ≠ b5 := fun e => nb5_b4 e.symm
 simp only [RR, seval]
 refine hK _ _ ?_; clear hK K
 refine aB fun K hK => ?_
 refine aA rfl ?_
 simp only [RR, seval]
 refine hK _ _ ?_; clear hK K
 refine aI true rfl (fun _ => ?_) (fun hc => by cases hc)
 refine aB fun K hK => ?_
 refine aA rfl ?_
 simp only [nb4_b5, RR, seval]
 refine hK _ _ ?_; clear hK K
 refine aP ?_; simp only [aV, aM, bE, RR, seval]
 refine aU.pure ?_
 rfl
set_option maxHeartbeats 2000000 in
theorem Jt (G I : List Tq) (n : Nat) : ∀ l : List Ex, mD l ≤ n → n ≤ 2000000 → dG cO 53 [Pa G I, .isl 5 (l.map Ex.row)] (.isl 6 ((l.map (Pc (Mw G I))).map CE.row)) := by
 induction n using Nat.strongRecOn with
 | _ n ih =>
   intro l hn hb
   have hl := Kt l
   have hkid : ∀ e ∈ l, dG cO 53 [Pa G I, .isl 5 (e.kids.map Ex.row)] (.isl 6 ((e.kids.map (Pc (Mw G I))).map CE.row)) := fun e he => by
    have h1 := pR he
    have h2 := e.sz_eq
    exact ih (mD e.kids) (by omega) e.kids (aY _) (by omega)
   have hfd := fun s => Aw G I s
   clear ih
   unfold Pa at *
   generalize Ud G = mG at *
   generalize Ud I = mI at *
   generalize Mw G I = rs at *
   refine bD 39 [.tmp 4] Tryd.func53 rfl rfl rfl rfl ?_
   refine aB fun K hK => ?_
   refine aA rfl ?_
   simp only [RR, seval]
   refine aK fun b2 hn2 => ?_
   simp only [RR, seval]
   refine hK _ _ ?_; clear hK K
   refine aB fun K hK => ?_
   refine aA rfl ?_
   simp only [RR, seval]
   refine hK _ _ ?_; clear hK K
   refine aJ ?_
   refine aB fun K hK => ?_
   refine aA rfl ?_
   simp only [aD, RR, seval]
   refine hK _ _ ?_; clear hK K
   refine bG fun F1 M1 hfr hH => ?_
   have g2 := hfr 2
   have g4 := hfr 4
   have g5 := hfr 5
   have g9 := hfr 9
   have g10 := hfr 10
   have g11 := hfr 11
   have gb2 := hH b2
   try simp only [RR, seval] at g2 g4 g5 g9 g10 g11 gb2
   have f2 := g2; clear g2
   have f4 := g4; clear g4
   have f5 := g5; clear g5
   have f9 := g9; clear g9
   have f10 := g10; clear g10
   have f11 := g11; clear g11
   have hb2 := gb2; clear gb2
   clear hfr hH
   refine aQ ?_
   refine bY [2, 4, 9, 10] (l.length) (fun k fr M => fr 11 = .int .i64 (k : Nat) ∧ M b2 = M1 b2 ∧ dW 6 (fr 5) (((l.take k).map (Pc rs)).map CE.row) M) ⟨f11, rfl, .inl ⟨f5, rfl⟩⟩ ?_
   rintro k F2 M2 hk0 ⟨fx, gb2, hown⟩ agx K0 hK0
   have f2 := (agx 2 rfl).trans f2
   have f4 := (agx 4 rfl).trans f4
   have f9 := (agx 9 rfl).trans f9
   have f10 := (agx 10 rfl).trans f10
   have f11 := fx; clear fx
   have hb2 := gb2.trans hb2
   have ag0 := aW.refl [2, 4, 9, 10] F2
   have e0_b2 := gb2; clear gb2
   clear agx
   obtain ⟨v5, f5⟩ : ∃ v, F2 5 = v := ⟨_, rfl⟩
   rw [f5] at hown
   refine aB fun K hK => ?_
   refine aA rfl ?_
   simp only [f10, f11, RR, seval]
   refine hK _ _ ?_; clear hK K
   refine aJ ?_
   refine aI _ rfl (fun hc => ?_) (fun hc => ?_)
   ·have hlt0 : k < l.length := by have := aC hc; omega
    clear hc
    have hg0 := aH hlt0
    have htk : l.take (k + 1) = l.take k ++ [l[k]] := bT hlt0
    have hkd := hkid _ (bA hlt0)
    have hkl : (l.take k).length ≤ 2000000 := by rw [cC]; omega
    generalize l[k] = e at hg0 htk hkd
    have hg := Ja hg0
    have hf := hfd e.name
    refine aL ?_; try simp only [RR]
    refine aJ ?_
    refine aQ ?_
    refine aB fun K hK => ?_
    refine aA rfl ?_
    simp only [f9, f11, hg, RR, seval]
    refine aK fun b7 hn7 => ?_
    have nb7_b2 : b7 ≠ b2 := fun e => by rw [e] at hn7; simp only [hb2, seval, reduceCtorEq] at hn7
    have nb2_b7 : b2 ≠ b7 := fun e => nb7_b2 e.symm
    simp only [RR, seval]
    refine hK _ _ ?_; clear hK K
    refine aB fun K hK => ?_
    refine aA rfl ?_
    simp only [f2, hb2, nb2_b7, RR, seval]
    refine aO (hf) ?_
    simp only [RR, seval]
    refine aK fun b8 hn8 => ?_
    have nb8_b2 : b8 ≠ b2 := fun e => by rw [e] at hn8; simp only [hb2, nb2_b7, RR, seval, reduceCtorEq] at hn8
    have nb2_b8 : b2 ≠ b8 := fun e => nb8_b2 e.symm
    have nb8_b7 : b8 ≠ b7 := fun e => by rw [e] at hn8; simp only [RR, seval, reduceCtorEq] at hn8
    have nb7_b8 : b7 ≠ b8 := fun e => nb8_b7 e.symm
    simp only [RR, seval]
    refine hK _ _ ?_; clear hK K
    refine bG fun F3 M3 hfr hH => ?_
    have g2 := hfr 2
    have g4 := hfr 4
    have g5 := hfr 5
    have g7 := hfr 7
    have g8 := hfr 8
    have g9 := hfr 9
    have g10 := hfr 10
    have g11 := hfr 11
    have gb2 := hH b2
    have gb7 := hH b7
    have gb8 := hH b8
    try simp only [f2, f4, f9, f10, f11, f5, hb2, nb2_b7, nb2_b8, nb7_b8, RR, seval] at g2 g4 g5 g7 g8 g9 g10 g11 gb2 gb7 gb8
    have ag0 : aW [2, 4, 9, 10] F2 F3 := aW.same hfr (by repeat (first | exact ag0 | refine aW.upd rfl ?_))
    have e0_b2 := (hH b2).trans (by first | exact e0_b2 | (simp only [nb2_b7, nb2_b8, aG, seval]; first | done | exact e0_b2))
    have hown : dW 6 v5 _ M3 := Bu hown fun b o hb => by
     have n7 : b ≠ b7 := fun e => by rw [e, hn7] at hb; cases hb
     have n8 : b ≠ b8 := fun e => by rw [e] at n7 hb; simp only [cG _ _ n7, hb, reduceCtorEq] at hn8
     rw [hH]; simp only [cG _ _ n7, cG _ _ n8]; exact hb
    have f2 := g2; clear g2
    have f4 := g4; clear g4
    have f5 := g5; clear g5
    have f7 := g7; clear g7
    have f8 := g8; clear g8
    have f9 := g9; clear g9
    have f10 := g10; clear g10
    have f11 := g11; clear g11
    have hb2 := gb2; clear gb2
    have hb7 := gb7; clear gb7
    have hb8 := gb8; clear gb8
    clear hfr hH
    have ho2 := hown.offsz hb2 (by decide)
    have ho7 := hown.offsz hb7 (by decide)
    have ho8 := hown.offsz hb8 (by decide)
    refine bC (fun x => x ≠ b2 ∧ x ≠ b7 ∧ x ≠ b8) [(0, 3), (1, 3), (2, 0), (3, 3), (4, 0), (5, 3), (6, 0), (7, 3), (8, 0), (9, 3), (10, 0), (11, 1), (12, 3), (13, 1), (14, 1), (15, 3), (16, 2), (17, 1), (18, 3)] [] dB (by kernel_rfl) rfl rfl ?_
    simp only [bW, dJ, f2, f5, f7, f8, hb2, hb7, hb8, nb7_b2, nb8_b2, nb8_b7, nb7_b8, RR, seval]
    refine aO (hkd) ?_
    simp only [RR, seval]
    refine kK hown (by simp only [aD, bX, List.length_nil]; omega) (fun b e => by first | trivial | (repeat' apply And.intro) <;> (intro c; subst c; first | exact ho2 _ _ e | exact ho7 _ _ e | exact ho8 _ _ e )) fun v6 M4 hown' hk' hg' => ?_
    have ho2' := hg' b2 ho2 (by rw [hb2]; exact cB _)
    have ho7' := hg' b7 ho7 (by rw [hb7]; exact cB _)
    have ho8' := hg' b8 ho8 (by rw [hb8]; exact cB _)
    simp only [RR, seval]
    have gb2 := hk' b2 _ hb2 (by first | exact (hown).nb' hb2 (by decide) | exact ho2 _ _ | assumption | (intro e; simp_all))
    have e0_b2 := (gb2.trans hb2.symm).trans e0_b2
    have hb2 := gb2; clear gb2
    have gb7 := hk' b7 _ hb7 (by first | exact (hown).nb' hb7 (by decide) | exact ho7 _ _ | assumption | (intro e; simp_all))
    have hb7 := gb7; clear gb7
    have gb8 := hk' b8 _ hb8 (by first | exact (hown).nb' hb8 (by decide) | exact ho8 _ _ | assumption | (intro e; simp_all))
    have hb8 := gb8; clear gb8
    have hce := hown'.cells; have hoe := hown'.one1
    try simp only [bW, dJ, EM, hce, hoe, Option.bind_some, List.drop, f2, f5, f7, f8, hb2, hb7, hb8, nb7_b2, nb2_b7, nb8_b2, nb2_b8, nb8_b7, nb7_b8, aD, hg, RR, seval]
    refine aA rfl ?_
    simp only [f11, RR, seval]
    try rw [aR _ (by omega)]
    refine hK0 _ _ hlt0 ⟨by first | rfl | (simp only [aG, seval]; rfl), (by first | exact e0_b2 | (simp only [nb7_b2, nb2_b7, nb8_b2, nb2_b8, nb8_b7, nb7_b8, aG, seval]; first | done | exact e0_b2)), by rw [htk, List.map_append, List.map_append]; simp only [List.map_cons, List.map_nil, Uq]; exact hown'⟩ (by repeat (first | exact ag0 | refine aW.upd rfl ?_))
   have hkn0 : k = l.length := by have := aF hc; omega
   clear hc
   rw [hkn0, List.take_length] at hown
   refine bH ?_; simp only [RR, seval]
   refine aB fun K hK => ?_
   refine aA rfl ?_
   simp only [f5, RR, seval]
   refine hK _ _ ?_; clear hK K
   refine aP ?_; simp only [aV, aM, bE, RR, seval]
   exact dW.gives1 hown rfl
   skip
set_option maxHeartbeats 2000000 in
theorem Jp (G I : List Tq) (n : Nat) : ∀ l : List Sm, jD l ≤ n → n ≤ 2000000 → dG cO 36 [Pa G I, .isl 5 (l.map Sm.row)] (.isl 6 ((l.map (Ob (Mw G I))).map CS.row)) := by
 induction n using Nat.strongRecOn with
 | _ n ih =>
   intro l hn hb
   have hl := Ks l
   have hT : ∀ e ∈ l, dG cO 36 [Pa G I, .isl 5 (e.thn.map Sm.row)] (.isl 6 ((e.thn.map (Ob (Mw G I))).map CS.row)) := fun e he => by
    have h1 := lM he
    have h2 := e.sz_eq
    exact ih (jD e.thn) (by omega) e.thn (aY _) (by omega)
   have hU : ∀ e ∈ l, dG cO 36 [Pa G I, .isl 5 (e.els.map Sm.row)] (.isl 6 ((e.els.map (Ob (Mw G I))).map CS.row)) := fun e he => by
    have h1 := lM he
    have h2 := e.sz_eq
    exact ih (jD e.els) (by omega) e.els (aY _) (by omega)
   have hE : ∀ e ∈ l, dG cO 53 [Pa G I, .isl 5 (e.es.map Ex.row)] (.isl 6 ((e.es.map (Pc (Mw G I))).map CE.row)) := fun e he => by
    have h1 := lM he
    have h2 := e.sz_eq
    exact Jt G I (mD e.es) e.es (aY _) (by omega)
   have hfd := fun s => Aw G I s
   clear ih
   unfold Pa at *
   generalize Ud G = mG at *
   generalize Ud I = mI at *
   generalize Mw G I = rs at *
   refine bD 43 [.tmp 4] Tryd.func36 rfl rfl rfl rfl ?_
   refine aB fun K hK => ?_
   refine aA rfl ?_
   simp only [RR, seval]
   refine aK fun b2 hn2 => ?_
   simp only [RR, seval]
   refine hK _ _ ?_; clear hK K
   refine aB fun K hK => ?_
   refine aA rfl ?_
   simp only [RR, seval]
   refine hK _ _ ?_; clear hK K
   refine aJ ?_
   refine aB fun K hK => ?_
   refine aA rfl ?_
   simp only [aD, RR, seval]
   refine hK _ _ ?_; clear hK K
   refine bG fun F1 M1 hfr hH => ?_
   have g2 := hfr 2
   have g4 := hfr 4
   have g5 := hfr 5
   have g9 := hfr 9
   have g10 := hfr 10
   have g11 := hfr 11
   have gb2 := hH b2
   try simp only [RR, seval] at g2 g4 g5 g9 g10 g11 gb2
   have f2 := g2; clear g2
   have f4 := g4; clear g4
   have f5 := g5; clear g5
   have f9 := g9; clear g9
   have f10 := g10; clear g10
   have f11 := g11; clear g11
   have hb2 := gb2; clear gb2
   clear hfr hH
   refine aQ ?_
   refine bY [2, 4, 9, 10] (l.length) (fun k fr M => fr 11 = .int .i64 (k : Nat) ∧ M b2 = M1 b2 ∧ dW 6 (fr 5) (((l.take k).map (Ob rs)).map CS.row) M) ⟨f11, rfl, .inl ⟨f5, rfl⟩⟩ ?_
   rintro k F2 M2 hk0 ⟨fx, gb2, hown⟩ agx K0 hK0
   have f2 := (agx 2 rfl).trans f2
   have f4 := (agx 4 rfl).trans f4
   have f9 := (agx 9 rfl).trans f9
   have f10 := (agx 10 rfl).trans f10
   have f11 := fx; clear fx
   have hb2 := gb2.trans hb2
   have ag0 := aW.refl [2, 4, 9, 10] F2
   have e0_b2 := gb2; clear gb2
   clear agx
   obtain ⟨v5, f5⟩ : ∃ v, F2 5 = v := ⟨_, rfl⟩
   rw [f5] at hown
   refine aB fun K hK => ?_
   refine aA rfl ?_
   simp only [f10, f11, RR, seval]
   refine hK _ _ ?_; clear hK K
   refine aJ ?_
   refine aI _ rfl (fun hc => ?_) (fun hc => ?_)
   ·have hlt0 : k < l.length := by have := aC hc; omega
    clear hc
    have hg0 := aH hlt0
    have htk : l.take (k + 1) = l.take k ++ [l[k]] := bT hlt0
    have hk1 := hE _ (bA hlt0)
    have hk2 := hT _ (bA hlt0)
    have hk3 := hU _ (bA hlt0)
    have hkl : (l.take k).length ≤ 2000000 := by rw [cC]; omega
    generalize l[k] = e at hg0 htk hk1 hk2 hk3
    have hg := Rv hg0
    have hf := hfd e.name
    refine aL ?_; try simp only [RR]
    refine aJ ?_
    refine aQ ?_
    refine aB fun K hK => ?_
    refine aA rfl ?_
    simp only [f9, f11, hg, RR, seval]
    refine aK fun b7 hn7 => ?_
    have nb7_b2 : b7 ≠ b2 := fun e => by rw [e] at hn7; simp only [hb2, seval, reduceCtorEq] at hn7
    have nb2_b7 : b2 ≠ b7 := fun e => nb7_b2 e.symm
    simp only [RR, seval]
    refine hK _ _ ?_; clear hK K
    refine aB fun K hK => ?_
    refine aA rfl ?_
    simp only [f2, hb2, nb2_b7, RR, seval]
    refine aO (hf) ?_
    simp only [RR, seval]
    refine aK fun b8 hn8 => ?_
    have nb8_b2 : b8 ≠ b2 := fun e => by rw [e] at hn8; simp only [hb2, nb2_b7, RR, seval, reduceCtorEq] at hn8
    have nb2_b8 : b2 ≠ b8 := fun e => nb8_b2 e.symm
    have nb8_b7 : b8 ≠ b7 := fun e => by rw [e] at hn8; simp only [RR, seval, reduceCtorEq] at hn8
    have nb7_b8 : b7 ≠ b8 := fun e => nb8_b7 e.symm
    simp only [RR, seval]
    refine hK _ _ ?_; clear hK K
    refine bG fun F3 M3 hfr hH => ?_
    have g2 := hfr 2
    have g4 := hfr 4
    have g5 := hfr 5
    have g7 := hfr 7
    have g8 := hfr 8
    have g9 := hfr 9
    have g10 := hfr 10
    have g11 := hfr 11
    have gb2 := hH b2
    have gb7 := hH b7
    have gb8 := hH b8
    try simp only [f2, f4, f9, f10, f11, f5, hb2, nb2_b7, nb2_b8, nb7_b8, RR, seval] at g2 g4 g5 g7 g8 g9 g10 g11 gb2 gb7 gb8
    have ag0 : aW [2, 4, 9, 10] F2 F3 := aW.same hfr (by repeat (first | exact ag0 | refine aW.upd rfl ?_))
    have e0_b2 := (hH b2).trans (by first | exact e0_b2 | (simp only [nb2_b7, nb2_b8, aG, seval]; first | done | exact e0_b2))
    have hown : dW 6 v5 _ M3 := Bu hown fun b o hb => by
     have n7 : b ≠ b7 := fun e => by rw [e, hn7] at hb; cases hb
     have n8 : b ≠ b8 := fun e => by rw [e] at n7 hb; simp only [cG _ _ n7, hb, reduceCtorEq] at hn8
     rw [hH]; simp only [cG _ _ n7, cG _ _ n8]; exact hb
    have f2 := g2; clear g2
    have f4 := g4; clear g4
    have f5 := g5; clear g5
    have f7 := g7; clear g7
    have f8 := g8; clear g8
    have f9 := g9; clear g9
    have f10 := g10; clear g10
    have f11 := g11; clear g11
    have hb2 := gb2; clear gb2
    have hb7 := gb7; clear gb7
    have hb8 := gb8; clear gb8
    clear hfr hH
    have ho2 := hown.offsz hb2 (by decide)
    have ho7 := hown.offsz hb7 (by decide)
    have ho8 := hown.offsz hb8 (by decide)
    refine bC (fun x => x ≠ b2 ∧ x ≠ b7 ∧ x ≠ b8) [(0, 3), (1, 3), (2, 0), (3, 3), (4, 0), (5, 3), (6, 0), (7, 1), (8, 3), (9, 1), (11, 0), (12, 3), (13, 0), (15, 0), (16, 3), (17, 0), (10, 1), (14, 1), (18, 1), (19, 3), (20, 2), (21, 1), (22, 3)] [] dB (by kernel_rfl) rfl rfl ?_
    simp only [bW, dJ, f2, f5, f7, f8, hb2, hb7, hb8, nb7_b2, nb2_b7, nb8_b2, nb2_b8, nb8_b7, nb7_b8, RR, seval]
    refine aO (hk1) ?_
    simp only [RR, seval]
    refine aO (hk2) ?_
    simp only [RR, seval]
    refine aO (hk3) ?_
    simp only [RR, seval]
    refine kK hown (by simp only [aD, bX, List.length_nil]; omega) (fun b e => by first | trivial | (repeat' apply And.intro) <;> (intro c; subst c; first | exact ho2 _ _ e | exact ho7 _ _ e | exact ho8 _ _ e )) fun v6 M4 hown' hk' hg' => ?_
    have ho2' := hg' b2 ho2 (by rw [hb2]; exact cB _)
    have ho7' := hg' b7 ho7 (by rw [hb7]; exact cB _)
    have ho8' := hg' b8 ho8 (by rw [hb8]; exact cB _)
    simp only [RR, seval]
    have gb2 := hk' b2 _ hb2 (by first | exact (hown).nb' hb2 (by decide) | exact ho2 _ _ | assumption | (intro e; simp_all))
    have e0_b2 := (gb2.trans hb2.symm).trans e0_b2
    have hb2 := gb2; clear gb2
    have gb7 := hk' b7 _ hb7 (by first | exact (hown).nb' hb7 (by decide) | exact ho7 _ _ | assumption | (intro e; simp_all))
    have hb7 := gb7; clear gb7
    have gb8 := hk' b8 _ hb8 (by first | exact (hown).nb' hb8 (by decide) | exact ho8 _ _ | assumption | (intro e; simp_all))
    have hb8 := gb8; clear gb8
    have hce := hown'.cells; have hoe := hown'.one1
    try simp only [bW, dJ, EM, hce, hoe, Option.bind_some, List.drop, f2, f5, f7, f8, hb2, hb7, hb8, nb7_b2, nb2_b7, nb8_b2, nb2_b8, nb8_b7, nb7_b8, aD, hg, RR, seval]
    refine aA rfl ?_
    simp only [f11, RR, seval]
    try rw [aR _ (by omega)]
    refine hK0 _ _ hlt0 ⟨by first | rfl | (simp only [aG, seval]; rfl), (by first | exact e0_b2 | (simp only [nb7_b2, nb2_b7, nb8_b2, nb2_b8, nb8_b7, nb7_b8, aG, seval]; first | done | exact e0_b2)), by rw [htk, List.map_append, List.map_append]; simp only [List.map_cons, List.map_nil, Up]; exact hown'⟩ (by repeat (first | exact ag0 | refine aW.upd rfl ?_))
   have hkn0 : k = l.length := by have := aF hc; omega
   clear hc
   rw [hkn0, List.take_length] at hown
   refine bH ?_; simp only [RR, seval]
   refine aB fun K hK => ?_
   refine aA rfl ?_
   simp only [f5, RR, seval]
   refine hK _ _ ?_; clear hK K
   refine aP ?_; simp only [aV, aM, bE, RR, seval]
   exact dW.gives1 hown rfl
   skip
end Go.Proofs.YtnfbbjhdflhmjaaDoor
