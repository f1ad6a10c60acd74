/- Chapter 19, the judge's: statements one behind the other; a statement. -/
import Derived.Test.YtnfbbjhdflhmjaaDoorGQb
import Derived.Test.YtnfbbjhdflhmjaaDoorGKf
set_option linter.unusedSimpArgs false
set_option linter.unusedVariables false
set_option maxRecDepth 10000
namespace Go.Proofs.YtnfbbjhdflhmjaaDoor
open Go.Al
section
variable {cx : Kx} {fu : Int} {W r w : Nat} {n : Nat}
set_option maxHeartbeats 4000000 in
theorem Ek (ih : Tb cx fu W r w n) (i : Nat) (l : List CS) (st : RS) (vo : AV) (vl : Int) (H : Hp) (o : Rz (Option Int)) (hl : oV l) (hw : lO (W : Int) cx.funs i l) (hkd : oX l) (hvl : cJ vl) (hR : dR cx fu W r w st vo 0 false vl H) (h : gX cx (n + 1) l st = some o) :
  jN cO 24 [.ptr 11 r 0 0, .isl 6 (l.map CS.row)] H (Em cx fu W r w vo H o) := by
 have hr := hR.r
 have hfit := hl.fit
 simp only [cY] at hfit
 obtain ⟨HX, hHX⟩ : ∃ X, X = H := ⟨_, rfl⟩
 refine bD 31 [] Tryd.func24 rfl rfl rfl rfl ?_
 refine aB fun K hK => ?_
 refine aA rfl ?_
 simp only [RR, seval]
 refine hK _ _ ?_; clear hK K
 refine bG fun F1 M1 hfr hH => ?_
 have g0 := hfr 0
 have g1 := hfr 1
 have g4 := hfr 4
 have gr := hH r
 try simp only [hr, RR, seval] at g0 g1 g4 gr
 have hM := funext hH
 have f0 := g0; clear g0
 have f1 := g1; clear g1
 have f4 := g4; clear g4
 have hr := gr; clear gr
 clear hfr hH
 refine aQ ?_
 refine iS [0, 1] (l.length) (fun m fr M => ∃ k stk vok enk bok vlk, m + k = l.length ∧ fr 4 = .int .i64 (k : Nat) ∧ cJ vlk ∧ dR cx fu W r w stk vok enk bok vlk M ∧ bO r w vo vok HX M ∧ ((enk = 0 ∧ bok = false ∧ ∃ mm, mm ≤ n + 1 ∧ gX cx mm (l.drop k) stk = some o) ∨ (enk = 0 ∧ bok = true ∧ o = .val (some vlk) stk) ∨ (enk ≠ 0 ∧ bok = false ∧ o = .fin enk stk))) ⟨0, st, vo, 0, false, vl, rfl, f4, hvl, (by rw [hM]; exact hR), (by rw [hM, hHX]; exact bO.refl _ _ _ _), .inl ⟨rfl, rfl, n + 1, aY _, h⟩⟩ ?_
 rintro m F2 M2 ⟨k, stk, vok, enk, bok, vlk, hmk, f4, hvlk, hRk, hkp, hcase⟩ agx K0 hK0
 have f0 := (agx 0 rfl).trans f0
 have f1 := (agx 1 rfl).trans f1
 have ag0 := aW.refl [0, 1] F2
 clear agx
 have hr := hRk.r
 clear h
 have hen : enk = 0 ∨ ¬ enk = 0 := by by_cases h : enk = 0; exact .inl h; exact .inr h
 have hzk : (k : Int) < (l.length : Int) ∨ ¬ (k : Int) < (l.length : Int) := by omega
 rcases hen with hen | hen <;> rcases hzk with zk | zk <;> rcases Bool.eq_false_or_eq_true bok with hbk | hbk
 all_goals
  refine aJ ?_
  refine aB fun K hK => ?_
  refine aA rfl ?_
  simp only [f0, f1, f4, hr, aD, hen, zk, hbk, RR, seval]
  repeat' ((first | refine aS (fun h => ?_) (fun h => ?_) | refine aT (fun h => ?_) (fun h => ?_)) <;> simp only [h, f0, f1, f4, hr, aD, hen, zk, hbk, RR, seval])
  all_goals
   refine hK _ _ ?_; clear hK K
   refine aI _ rfl (fun hc => ?_) (fun hc => ?_)
   ·try (cases hc; done)
    all_goals
     have hw0 := hc; clear hc
     have hlt : k < l.length := by omega
     have hLk : ∃ mm, mm ≤ n + 1 ∧ gX cx mm (l.drop k) stk = some o := by
      rcases hcase with ⟨_, _, h⟩ | ⟨_, h, _⟩ | ⟨h, _⟩
      ·exact h
      ·rw [hbk] at h; cases h
      exact absurd hen h
     clear hcase
     obtain ⟨mm, hmn, hLk⟩ := hLk
     have hRk0 := hRk
     rw [hen, hbk] at hRk0
     have hg0 := aH hlt
     have hdk : l.drop k = l[k] :: l.drop (k + 1) := bK hlt
     generalize l[k] = a at hg0 hdk
     have hgs := oZ hg0
     rw [hdk] at hLk
     obtain ⟨m', rfl⟩ : ∃ m', mm = m' + 1 := by
      cases mm with
      | zero => simp [gX] at hLk
      | succ m' => exact ⟨m', rfl⟩
     simp only [gX] at hLk
     obtain ⟨r1, h1⟩ : ∃ r1, nR cx m' a stk = some r1 := by
      cases h1 : nR cx m' a stk with
      | none => rw [h1] at hLk; cases hLk
      | some r1 => exact ⟨r1, rfl⟩
     rw [h1] at hLk
     have hS := ih.S i a stk vok vlk _ r1 (hl.all _ (bN hg0)) (vH hw hg0).1 (Fb hkd hg0) hvlk hRk0 (Fa (by omega) h1)
     rw [a.row_eq] at hS
     refine aL ?_; try simp only [RR]
     refine aJ ?_
     refine aQ ?_
     refine aA rfl ?_
     simp only [f0, f1, f4, hgs, RR, seval]
     refine tO hS (fun _ => trivial) fun vo1 vl1 H1 hne1 hvl1 hv1 hR1 hk1 => ?_
     have hkk1 := hkp.trans hk1
     have hcase1 : (nU r1 = 0 ∧ iO r1 = false ∧ ∃ mm, mm ≤ n + 1 ∧ gX cx mm (l.drop (k + 1)) r1.st = some o) ∨ (nU r1 = 0 ∧ iO r1 = true ∧ o = .val (some vl1) r1.st) ∨ (nU r1 ≠ 0 ∧ iO r1 = false ∧ o = .fin (nU r1) r1.st) := by
      cases r1 with
      | fin e s => exact .inr (.inr ⟨hne1 _ _ rfl, rfl, (Option.some.inj (show some (Rz.fin e s) = some o from hLk)).symm⟩)
      | val q s =>
        cases q with
        | none => exact .inl ⟨rfl, rfl, m', by omega, hLk⟩
        | some v =>
          obtain rfl := hv1 _ _ rfl
          exact .inr (.inl ⟨rfl, rfl, (Option.some.inj hLk).symm⟩)
     have ek : IntKind.wrap .i64 ((k : Int) + 1) = ((k + 1 : Nat) : Int) := by rw [aR _ (by omega)]; omega
     simp only [RR, seval]
     refine aA rfl ?_
     simp only [f4, ek, RR, seval]
     refine hK0 (m - 1) _ _ (by omega) ⟨k + 1, r1.st, vo1, nU r1, iO r1, vl1, (by omega), rfl, hvl1, hR1, hkk1, hcase1⟩ (by repeat (first | exact ag0 | refine aW.upd rfl ?_))
   try (cases hc; done)
   all_goals
    have hw0 := hc; clear hc
    have hfin : (∀ e s, o = .fin e s → e ≠ 0) ∧ (∀ v s, o = .val (some v) s → vlk = v) ∧ o.st = stk ∧ nU o = enk ∧ iO o = bok := by
     rcases hcase with ⟨h1, h2, mm, h3, h4⟩ | ⟨h1, h2, h3⟩ | ⟨h1, h2, h3⟩
     ·obtain hkl : k = l.length := by first | omega | (exfalso; exact hen h1) | (exfalso; rw [hbk] at h2; cases h2)
      rw [hkl, List.drop_length] at h4
      cases mm with
      | zero => simp [gX] at h4
      | succ mm =>
        simp only [gX, Option.some.injEq] at h4
        subst h4
        exact ⟨(fun _ _ e => by cases e), (fun _ _ e => by cases e), rfl, h1.symm, h2.symm⟩
     ·subst h3
      exact ⟨(fun _ _ e => by cases e), (fun _ _ e => by cases e; rfl), rfl, h1.symm, h2.symm⟩
     subst h3
     exact ⟨(fun _ _ e => by cases e; exact h1), (fun _ _ e => by cases e), rfl, rfl, h2.symm⟩
    obtain ⟨g1, g2, g3, g4, g5⟩ := hfin
    rw [hHX] at hkp
    refine bH ?_; simp only [RR, seval]
    try simp only [aV, aM, bE, seval]
    exact aU.run ⟨vok, vlk, rfl, g1, hvlk, g2, (by rw [g3, g4, g5]; exact hRk), hkp⟩
set_option maxHeartbeats 4000000 in
theorem If (ih : Tb cx fu W r w n) (hx : Ot cx fu W) (i : Nat) (e : CS) (st : RS) (vo : AV) (vl : Int) (H : Hp) (o : Rz (Option Int)) (he : e.ok) (hw : Cy (W : Int) cx.funs i e) (hkd : Xn e) (hvl : cJ vl) (hR : dR cx fu W r w st vo 0 false vl H) (h : nR cx (n + 1) e st = some o) :
  jN cO 38 [.ptr 11 r 0 0, .agg e.row] H (Em cx fu W r w vo H o) := by
 obtain ⟨k, a, z, l, t, u⟩ := e
 have hr := hR.r
 have hes := he.es
 have hth := he.thn
 have hel := he.els
 simp only [CS.es, CS.thn, CS.els] at hes hth hel
 simp only [Cy] at hw
 simp only [Xn] at hkd
 obtain ⟨hk7, hdt, hdu⟩ := hkd
 obtain ⟨w1, w2, w6, wk, wl, wt, wu⟩ := hw
 simp only [nR] at h
 have hV := fun (j : Nat) (b : CE) (hj : l[j]? = some b) st vo vl H o h1 h2 h3 => ih.V i b st vo vl H o (hes.all _ (bN hj)) (fX wl hj).1 h1 h2 h3
 rw [CS.row_eq]
 simp only [CS.kind, CS.slot, CS.size, CS.es, CS.thn, CS.els]
 have hW := hx.k.wl
 clear he
 obtain ⟨HX, hHX⟩ : ∃ X, X = H := ⟨_, rfl⟩
 by_cases k6 : k = 6
 ·subst k6
  simp only [show ¬ (6 : Int) = 1 by decide, show ¬ (6 : Int) = 2 by decide, show ¬ (6 : Int) = 3 by decide, show ¬ (6 : Int) = 4 by decide, show ¬ (6 : Int) = 5 by decide, if_false, if_true] at h
  obtain ⟨z0, _, f, hf, hp⟩ := w6 rfl
  cases h1 : oL cx n a l st with
  | none => rw [h1] at h; cases h
  | some r1 =>
    rw [h1] at h
    have hcall := fun H' g => ih.C i a f l st vo vl H' r1 hes wl z0 hf hp hvl g h1
    refine bD 167 [] Tryd.func38 rfl rfl rfl rfl ?_
    refine aB fun K hK => ?_
    refine aA rfl ?_
    simp only [RR, seval]
    refine aK fun b3 hn3 => ?_
    have nb3_r : b3 ≠ r := fun e => by rw [e] at hn3; simp only [hr, seval, reduceCtorEq] at hn3
    have nr_b3 : r ≠ b3 := fun e => nb3_r e.symm
    simp only [RR, seval]
    refine hK _ _ ?_; clear hK K
    refine aJ ?_
    refine aB fun K hK => ?_
    refine aA rfl ?_
    simp only [RR, seval]
    refine hK _ _ ?_; clear hK K
    refine aQ ?_
    refine aB fun K hK => ?_
    refine aA rfl ?_
    simp only [RR, seval]
    refine hK _ _ ?_; clear hK K
    refine aI true rfl (fun _ => ?_) (fun hc => by cases hc)
    refine bG fun F1 M1 hfr hH => ?_
    have g0 := hfr 0
    have g3 := hfr 3
    have gr := hH r
    have gb3 := hH b3
    try simp only [hr, nr_b3, RR, seval] at g0 g3 gr gb3
    have hM := funext hH
    have hR0 := (hR.new hn3 _).same hH
    have hk0 : bO r w vo vo H M1 := by rw [hM]; exact (bO.refl _ _ _ _).updN hn3 _
    have f0 := g0; clear g0
    have f3 := g3; clear g3
    have hr := gr; clear gr
    have hb3 := gb3; clear gb3
    clear hfr hH
    refine aB fun K hK => ?_
    refine aA rfl ?_
    simp only [f0, f3, hb3, RR, seval]
    refine gI (hcall _ hR0) (fun _ => trivial) fun x vo1 vl1 H1 ux hwv1 hne1 hvl1 hR1 hk1 => ?_
    have hend : (∀ e s, o = .fin e s → e ≠ 0) ∧ (∀ v s, o = .val (some v) s → vl1 = v) ∧ o.st = r1.st ∧ nU o = nU r1 ∧ iO o = false := by
     cases r1 with
     | fin e1 s1 =>
       obtain rfl := Option.some.inj (show some (Rz.fin e1 s1) = some o from h)
       exact ⟨(fun _ _ e => by cases e; exact hne1 _ _ rfl), (fun _ _ e => by cases e), rfl, rfl, rfl⟩
     | val x1 s1 =>
       obtain rfl := Option.some.inj (show some (Rz.val (none : Option Int) s1) = some o from h)
       exact ⟨(fun _ _ e => by cases e), (fun _ _ e => by cases e), rfl, rfl, rfl⟩
    obtain ⟨g1, g2, g3, g4, g5⟩ := hend
    simp only [RR, seval]
    refine hK _ _ ?_; clear hK K
    refine aP ?_; simp only [aV, aM, bE, RR, seval]
    exact aU.run ⟨vo1, vl1, rfl, g1, hvl1, g2, (by rw [g3, g4, g5]; exact hR1), hk0.trans hk1⟩
    skip
 by_cases k5 : k = 5
 ·subst k5
  simp only [show ¬ (5 : Int) = 1 by decide, show ¬ (5 : Int) = 2 by decide, show ¬ (5 : Int) = 3 by decide, show ¬ (5 : Int) = 4 by decide, if_false, if_true] at h
  cases hl0 : l[0]? with
  | none => rw [hl0] at h; cases h
  | some c =>
    simp only [hl0] at h
    have hg0 := jF hl0
    have hVc := fun st vo vl H o h1 h2 h3 => hV 0 c hl0 st vo vl H o h1 h2 h3
    rw [c.row_eq] at hVc
    refine bD 167 [] Tryd.func38 rfl rfl rfl rfl ?_
    refine aB fun K hK => ?_
    refine aA rfl ?_
    simp only [RR, seval]
    refine aK fun b3 hn3 => ?_
    have nb3_r : b3 ≠ r := fun e => by rw [e] at hn3; simp only [hr, seval, reduceCtorEq] at hn3
    have nr_b3 : r ≠ b3 := fun e => nb3_r e.symm
    simp only [RR, seval]
    refine hK _ _ ?_; clear hK K
    refine aJ ?_
    refine aB fun K hK => ?_
    refine aA rfl ?_
    simp only [RR, seval]
    refine hK _ _ ?_; clear hK K
    refine aQ ?_
    refine aB fun K hK => ?_
    refine aA rfl ?_
    simp only [RR, seval]
    refine hK _ _ ?_; clear hK K
    refine aI false rfl (fun hc => by cases hc) (fun _ => ?_)
    refine aB fun K hK => ?_
    refine aA rfl ?_
    simp only [RR, seval]
    refine hK _ _ ?_; clear hK K
    refine aI true rfl (fun _ => ?_) (fun hc => by cases hc)
    refine aJ ?_
    refine bG fun F1 M1 hfr hH => ?_
    have g0 := hfr 0
    have g3 := hfr 3
    have gr := hH r
    have gb3 := hH b3
    try simp only [hr, nr_b3, RR, seval] at g0 g3 gr gb3
    have hM := funext hH
    have hR0 := (hR.new hn3 _).same hH
    have hk0 : bO r w vo vo H M1 := by rw [hM]; exact (bO.refl _ _ _ _).updN hn3 _
    have f0 := g0; clear g0
    have f3 := g3; clear g3
    have hr := gr; clear gr
    have hb3 := gb3; clear gb3
    clear hfr hH
    refine aQ ?_
    refine iS [0, 3] (n) (fun d fr M => ∃ stk vok enk bok vlk, d ≤ n ∧ cJ vlk ∧ dR cx fu W r w stk vok enk bok vlk M ∧ M b3 = some (.rows 6 [[.int .i64 5, .int .i64 a, .int .i64 z, .isl 6 (l.map CE.row), .isl 6 (t.map CS.row), .isl 6 (u.map CS.row)]]) ∧ bO r w vo vok HX M ∧ ((enk = 0 ∧ bok = false ∧ oK cx d c t stk = some o) ∨ (enk = 0 ∧ bok = true ∧ o = .val (some vlk) stk) ∨ (enk ≠ 0 ∧ bok = false ∧ o = .fin enk stk))) ⟨st, vo, 0, false, vl, aY _, hvl, hR0, hb3, (by rw [hHX]; exact hk0), .inl ⟨rfl, rfl, h⟩⟩ ?_
    rintro d F2 M2 ⟨stk, vok, enk, bok, vlk, hdn, hvlk, hRk, hb3, hkp, hcase⟩ agx K1 hK1
    have f0 := (agx 0 rfl).trans f0
    have f3 := (agx 3 rfl).trans f3
    have ag1 := aW.refl [0, 3] F2
    clear agx
    have hr := hRk.r
    clear h
    have hen : enk = 0 ∨ ¬ enk = 0 := by by_cases h : enk = 0; exact .inl h; exact .inr h
    rcases hen with hen | hen <;> rcases Bool.eq_false_or_eq_true bok with hbk | hbk
    all_goals
     refine aJ ?_
     refine aB fun K hK => ?_
     refine aA rfl ?_
     simp only [f0, hr, hen, hbk, RR, seval]
     repeat' ((first | refine aS (fun h => ?_) (fun h => ?_) | refine aT (fun h => ?_) (fun h => ?_)) <;> simp only [h, f0, f3, hr, hb3, nb3_r, nr_b3, hg0, hen, hbk, RR, seval])
     all_goals
      refine hK _ _ ?_; clear hK K
      refine aI _ rfl (fun hc => ?_) (fun hc => ?_)
      ·try (cases hc; done)
       all_goals
        have hw1 := hc; clear hc
        have hWk : oK cx d c t stk = some o := by
         rcases hcase with ⟨_, _, h⟩ | ⟨_, h, _⟩ | ⟨h, _⟩
         ·exact h
         ·rw [hbk] at h; cases h
         exact absurd hen h
        clear hcase
        have hRk0 := hRk
        rw [hen, hbk] at hRk0
        obtain ⟨d', rfl⟩ : ∃ d', d = d' + 1 := by
         cases d with
         | zero => simp [oK] at hWk
         | succ d' => exact ⟨d', rfl⟩
        simp only [oK] at hWk
        have hT := Ah hx hRk0
        generalize hTT : eC cx.cx stk = tt at hWk hT
        refine aL ?_; try simp only [RR]
        refine aQ ?_
        refine aJ ?_
        refine aB fun K hK => ?_
        refine aA rfl ?_
        simp only [f0, RR, seval]
        refine Me hT (fun _ => trivial) fun H1 hne1 hR1 hk1 => ?_
        have hr := hR1.r
        have hb3 := hRk.keep hb3 (by decide) (by decide) hk1
        have hkk1 := hkp.trans hk1
        simp only [RR, seval]
        refine hK _ _ ?_; clear hK K
        refine aI _ rfl (fun hc6 => ?_) (fun hc6 => ?_)
        ·obtain ⟨e1, s1, rfl⟩ := fO (o := tt) (by simpa using hc6)
         obtain rfl := Option.some.inj (show some (Rz.fin e1 s1) = some o from hWk)
         rw [hHX] at hkk1
         have hfz : (∀ e s, (Rz.fin e1 s1 : Rz (Option Int)) = .fin e s → e ≠ 0) := fun _ _ e => by cases e; exact hne1 _ _ rfl
         refine aP ?_; simp only [aV, aM, bE, RR, seval]
         exact aU.run ⟨vok, vlk, rfl, hfz, hvlk, (fun _ _ e => by cases e), hR1, hkk1⟩
        obtain ⟨_, s1, rfl⟩ := fF (o := tt) hne1 (by simpa using hc6)
        simp only [bindR] at hWk
        have hR1 : dR cx fu W r w s1 vok 0 false vlk H1 := hR1
        have hr := hR1.r
        obtain ⟨r1, h1⟩ : ∃ r1, fJ cx d' c s1 = some r1 := by
         cases h1 : fJ cx d' c s1 with
         | none => rw [h1] at hWk; cases hWk
         | some r1 => exact ⟨r1, rfl⟩
        rw [h1] at hWk
        refine aL ?_; try simp only [RR]
        refine aB fun K hK => ?_
        refine aA rfl ?_
        simp only [f0, f3, hb3, hg0, RR, seval]
        refine gI (hVc _ _ _ _ _ hvlk hR1 (sF (by omega) h1)) (fun _ => trivial) fun x vo2 vl2 H2 ux hwv2 hne2 hvl2 hR2 hk2 => ?_
        have hr := hR2.r
        have hb3 := hR1.keep hb3 (by decide) (by decide) hk2
        have hkk2 := hkk1.trans hk2
        simp only [RR, seval]
        refine hK _ _ ?_; clear hK K
        refine aJ ?_
        have hcc : nU r1 = 0 ∨ ¬ nU r1 = 0 := by by_cases h : nU r1 = 0; exact .inl h; exact .inr h
        have hxx : x = 0 ∨ ¬ x = 0 := by by_cases h : x = 0; exact .inl h; exact .inr h
        rcases hcc with hcc | hcc <;> rcases hxx with hxx | hxx
        all_goals
         refine aB fun K hK => ?_
         refine aA rfl ?_
         simp only [f0, hr, hcc, hxx, RR, seval]
         refine hK _ _ ?_; clear hK K
         refine aI _ rfl (fun hc8 => ?_) (fun hc8 => ?_)
         ·try (cases hc8; done)
          all_goals
           have hfz : (∀ e s, o = .fin e s → e ≠ 0) ∧ (∀ v s, o = .val (some v) s → vl2 = v) ∧ o.st = r1.st ∧ nU o = nU r1 ∧ iO o = false := by
            cases r1 with
            | fin e1 s1 =>
              obtain rfl := Option.some.inj (show some (Rz.fin e1 s1) = some o from hWk)
              exact ⟨(fun _ _ e => by cases e; exact hne2 _ _ rfl), (fun _ _ e => by cases e), rfl, rfl, rfl⟩
            | val x1 s1 =>
              obtain rfl := hwv2 _ _ rfl
              simp only [] at hWk
              rw [if_pos (by first | exact hxx | exact absurd rfl hcc)] at hWk
              obtain rfl := Option.some.inj hWk
              exact ⟨(fun _ _ e => by cases e), (fun _ _ e => by cases e), rfl, rfl, rfl⟩
           obtain ⟨g1, g2, g3, g4, g5⟩ := hfz
           rw [hHX] at hkk2
           refine aP ?_; simp only [aV, aM, bE, RR, seval]
           exact aU.run ⟨vo2, vl2, rfl, g1, hvl2, g2, (by rw [g3, g4, g5]; exact hR2), hkk2⟩
         try (cases hc8; done)
         all_goals
          obtain ⟨x1, s2, rfl⟩ := fF (o := r1) hne2 hcc
          obtain rfl := hwv2 _ _ rfl
          simp only [] at hWk
          rw [if_neg hxx] at hWk
          have hR2 : dR cx fu W r w s2 vo2 0 false vl2 H2 := hR2
          have hr := hR2.r
          obtain ⟨r2, h2⟩ : ∃ r2, gX cx d' t s2 = some r2 := by
           cases h2 : gX cx d' t s2 with
           | none => rw [h2] at hWk; cases hWk
           | some r2 => exact ⟨r2, rfl⟩
          rw [h2] at hWk
          have hL := ih.L i t s2 vo2 vl2 H2 r2 hth wt hdt hvl2 hR2 (wK (by omega) h2)
          refine aL ?_; try simp only [RR]
          refine aA rfl ?_
          simp only [f0, f3, hb3, RR, seval]
          refine tO hL (fun _ => trivial) fun vo3 vl3 H3 hne3 hvl3 hv3 hR3 hk3 => ?_
          have hb3 := hR2.keep hb3 (by decide) (by decide) hk3
          have hkk3 := hkk2.trans hk3
          have hcase3 : (nU r2 = 0 ∧ iO r2 = false ∧ oK cx d' c t r2.st = some o) ∨ (nU r2 = 0 ∧ iO r2 = true ∧ o = .val (some vl3) r2.st) ∨ (nU r2 ≠ 0 ∧ iO r2 = false ∧ o = .fin (nU r2) r2.st) := by
           cases r2 with
           | fin e s => exact .inr (.inr ⟨hne3 _ _ rfl, rfl, (Option.some.inj (show some (Rz.fin e s) = some o from hWk)).symm⟩)
           | val q s =>
             cases q with
             | none => exact .inl ⟨rfl, rfl, hWk⟩
             | some v =>
               obtain rfl := hv3 _ _ rfl
               exact .inr (.inl ⟨rfl, rfl, (Option.some.inj hWk).symm⟩)
          simp only [RR, seval]
          refine hK1 (d') _ _ (by omega) ⟨r2.st, vo3, nU r2, iO r2, vl3, (by omega), hvl3, hR3, hb3, hkk3, hcase3⟩ (by repeat (first | exact ag1 | refine aW.upd rfl ?_))
      try (cases hc; done)
      all_goals
       have hw1 := hc; clear hc
       have hfin : (∀ e s, o = .fin e s → e ≠ 0) ∧ (∀ v s, o = .val (some v) s → vlk = v) ∧ o.st = stk ∧ nU o = enk ∧ iO o = bok := by
        rcases hcase with ⟨h1, h2, _⟩ | ⟨h1, h2, h3⟩ | ⟨h1, h2, h3⟩
        ·first | (exfalso; exact hen h1) | (exfalso; rw [hbk] at h2; cases h2)
        ·subst h3
         exact ⟨(fun _ _ e => by cases e), (fun _ _ e => by cases e; rfl), rfl, h1.symm, h2.symm⟩
        subst h3
        exact ⟨(fun _ _ e => by cases e; exact h1), (fun _ _ e => by cases e), rfl, rfl, h2.symm⟩
       obtain ⟨g1, g2, g3, g4, g5⟩ := hfin
       rw [hHX] at hkp
       refine bH ?_; simp only [RR, seval]
       refine aP ?_; simp only [aV, aM, bE, RR, seval]
       exact aU.run ⟨vok, vlk, rfl, g1, hvlk, g2, (by rw [g3, g4, g5]; exact hRk), hkp⟩
       skip
 by_cases k7 : k = 7
 ·subst k7
  simp only [show ¬ (7 : Int) = 1 by decide, show ¬ (7 : Int) = 2 by decide, show ¬ (7 : Int) = 3 by decide, show ¬ (7 : Int) = 4 by decide, show ¬ (7 : Int) = 5 by decide, show ¬ (7 : Int) = 6 by decide, if_false, if_true] at h
  cases hl0 : l[0]? with
  | none =>
    rw [hl0] at h
    obtain rfl := Option.some.inj h
    have hle : l = [] := by cases l with | nil => rfl | cons a l => simp at hl0
    subst hle
    refine bD 167 [] Tryd.func38 rfl rfl rfl rfl ?_
    refine aB fun K hK => ?_
    refine aA rfl ?_
    simp only [List.map_nil, RR, seval]
    refine aK fun b3 hn3 => ?_
    have nb3_r : b3 ≠ r := fun e => by rw [e] at hn3; simp only [hr, seval, reduceCtorEq] at hn3
    have nr_b3 : r ≠ b3 := fun e => nb3_r e.symm
    simp only [RR, seval]
    refine hK _ _ ?_; clear hK K
    refine aJ ?_
    refine aB fun K hK => ?_
    refine aA rfl ?_
    simp only [List.map_nil, RR, seval]
    refine hK _ _ ?_; clear hK K
    refine aQ ?_
    refine aB fun K hK => ?_
    refine aA rfl ?_
    simp only [List.map_nil, RR, seval]
    refine hK _ _ ?_; clear hK K
    refine aI false rfl (fun hc => by cases hc) (fun _ => ?_)
    refine aB fun K hK => ?_
    refine aA rfl ?_
    simp only [List.map_nil, RR, seval]
    refine hK _ _ ?_; clear hK K
    refine aI false rfl (fun hc => by cases hc) (fun _ => ?_)
    refine aB fun K hK => ?_
    refine aA rfl ?_
    simp only [List.map_nil, RR, seval]
    refine hK _ _ ?_; clear hK K
    refine aI true rfl (fun _ => ?_) (fun hc => by cases hc)
    refine aB fun K hK => ?_
    refine aA rfl ?_
    simp only [List.map_nil, RR, seval]
    refine hK _ _ ?_; clear hK K
    refine aJ ?_
    refine aB fun K hK => ?_
    refine aA rfl ?_
    simp only [List.map_nil, RR, seval]
    refine hK _ _ ?_; clear hK K
    refine aI false rfl (fun hc => by cases hc) (fun _ => ?_)
    refine aL ?_; try simp only [RR]
    refine aJ ?_
    refine aB fun K hK => ?_
    refine aA rfl ?_
    simp only [hr, nr_b3, List.map_nil, RR, seval]
    refine hK _ _ ?_; clear hK K
    refine aI true rfl (fun _ => ?_) (fun hc => by cases hc)
    refine aB fun K hK => ?_
    refine aA rfl ?_
    simp only [hr, nr_b3, List.map_nil, RR, seval]
    refine hK _ _ ?_; clear hK K
    refine aA rfl ?_
    simp only [List.map_nil, RR, seval]
    refine aP ?_; simp only [aV, aM, bE, RR, seval]
    exact aU.run ⟨vo, 0, rfl, (fun _ _ e => by cases e), by simp [cJ], (fun _ _ e => by cases e; rfl), (by rw [kH]; exact (hR.new hn3 _).turn 0 true 0 rfl rfl hR.rd hR.tk), (by rw [kH]; exact ((bO.refl _ _ _ _).updN hn3 _).trans (bO.run _))⟩
    skip
  | some b =>
    simp only [hl0] at h
    have hg0 := jF hl0
    have zl : (0 : Int) < (l.length : Int) := by have := (bM.1 hl0).1; omega
    cases h1 : fJ cx n b st with
    | none => rw [h1] at h; cases h
    | some r1 =>
      rw [h1] at h
      have hVa := fun H' g2 => hV 0 b hl0 st vo vl H' r1 hvl g2 h1
      rw [b.row_eq] at hVa
      refine bD 167 [] Tryd.func38 rfl rfl rfl rfl ?_
      refine aB fun K hK => ?_
      refine aA rfl ?_
      simp only [RR, seval]
      refine aK fun b3 hn3 => ?_
      have nb3_r : b3 ≠ r := fun e => by rw [e] at hn3; simp only [hr, seval, reduceCtorEq] at hn3
      have nr_b3 : r ≠ b3 := fun e => nb3_r e.symm
      simp only [RR, seval]
      refine hK _ _ ?_; clear hK K
      refine aJ ?_
      refine aB fun K hK => ?_
      refine aA rfl ?_
      simp only [RR, seval]
      refine hK _ _ ?_; clear hK K
      refine aQ ?_
      refine aB fun K hK => ?_
      refine aA rfl ?_
      simp only [RR, seval]
      refine hK _ _ ?_; clear hK K
      refine aI false rfl (fun hc => by cases hc) (fun _ => ?_)
      refine aB fun K hK => ?_
      refine aA rfl ?_
      simp only [RR, seval]
      refine hK _ _ ?_; clear hK K
      refine aI false rfl (fun hc => by cases hc) (fun _ => ?_)
      refine aB fun K hK => ?_
      refine aA rfl ?_
      simp only [RR, seval]
      refine hK _ _ ?_; clear hK K
      refine aI true rfl (fun _ => ?_) (fun hc => by cases hc)
      refine aB fun K hK => ?_
      refine aA rfl ?_
      simp only [RR, seval]
      refine hK _ _ ?_; clear hK K
      refine aJ ?_
      refine aB fun K hK => ?_
      refine aA rfl ?_
      simp only [zl, aD, RR, seval]
      refine hK _ _ ?_; clear hK K
      refine aI true rfl (fun _ => ?_) (fun hc => by cases hc)
      refine bG fun F1 M1 hfr hH => ?_
      have g0 := hfr 0
      have g3 := hfr 3
      have g5 := hfr 5
      have gr := hH r
      have gb3 := hH b3
      try simp only [hr, nr_b3, RR, seval] at g0 g3 g5 gr gb3
      have hM := funext hH
      have hR0 := (hR.new hn3 _).same hH
      have hk0 : bO r w vo vo H M1 := by rw [hM]; exact (bO.refl _ _ _ _).updN hn3 _
      have f0 := g0; clear g0
      have f3 := g3; clear g3
      have f5 := g5; clear g5
      have hr := gr; clear gr
      have hb3 := gb3; clear gb3
      clear hfr hH
      refine aA rfl ?_
      simp only [f0, f3, hb3, hg0, RR, seval]
      refine gI (hVa _ hR0) (fun _ => trivial) fun x vo1 vl1 H1 ux hwv1 hne1 hvl1 hR1 hk1 => ?_
      have hr := hR1.r
      simp only [RR, seval]
      refine aJ ?_
      refine aB fun K hK => ?_
      refine aA rfl ?_
      simp only [f0, hr, RR, seval]
      refine hK _ _ ?_; clear hK K
      refine aI _ rfl (fun hc14 => ?_) (fun hc14 => ?_)
      ·obtain ⟨x1, s1, rfl⟩ := fF (o := r1) hne1 (by simpa using hc14)
       obtain rfl := hwv1 _ _ rfl
       obtain rfl := Option.some.inj (show some (Rz.val (some x) s1) = some o from h)
       have hR1 : dR cx fu W r w s1 vo1 0 false vl1 H1 := hR1
       have hr := hR1.r
       refine aB fun K hK => ?_
       refine aA rfl ?_
       simp only [f0, hr, RR, seval]
       refine hK _ _ ?_; clear hK K
       refine aA rfl ?_
       simp only [f0, RR, seval]
       refine aP ?_; simp only [aV, aM, bE, RR, seval]
       exact aU.run ⟨vo1, x, rfl, (fun _ _ e => by cases e), ux, (fun _ _ e => by cases e; rfl), (by rw [kH]; exact hR1.turn 0 true x rfl rfl hR1.rd hR1.tk), (by rw [kH]; exact (hk0.trans hk1).trans (bO.run _))⟩
      obtain ⟨e1, s1, rfl⟩ := fO (o := r1) (by simpa using hc14)
      obtain rfl := Option.some.inj (show some (Rz.fin e1 s1) = some o from h)
      refine aL ?_; try simp only [RR]
      refine aP ?_; simp only [aV, aM, bE, RR, seval]
      exact aU.run ⟨vo1, vl1, rfl, (fun _ _ e => by cases e; exact hne1 _ _ rfl), hvl1, (fun _ _ e => by cases e), hR1, hk0.trans hk1⟩
 have hk4 : k = 1 ∨ k = 2 ∨ k = 3 ∨ k = 4 := by omega
 cases hl0 : l[0]? with
 | none => rw [hl0] at h; rcases hk4 with rfl | rfl | rfl | rfl <;> simp at h
 | some b =>
 simp only [hl0] at h
 have hg0 := jF hl0
 obtain ⟨r1, h1⟩ : ∃ r1, fJ cx n b st = some r1 := by
  cases h1 : fJ cx n b st with
  | none =>
    rcases hk4 with rfl | rfl | rfl | rfl
    ·rw [h1] at h; simp [bindR] at h
    ·simp only [show ¬ (2 : Int) = 1 by decide, if_false, if_true] at h
     cases hl1 : l[1]? with
     | none => rw [hl1] at h; cases h
     | some d => rw [hl1] at h; simp [bindR, h1] at h
    ·rw [h1] at h; simp [bindR] at h
    rw [h1] at h; simp [bindR] at h
  | some r1 => exact ⟨r1, rfl⟩
 have hVa := fun H' g2 => hV 0 b hl0 st vo vl H' r1 hvl g2 h1
 rw [b.row_eq] at hVa
 rcases hk4 with rfl | rfl | rfl | rfl
 ·simp only [if_true] at h
  rw [h1] at h
  obtain ⟨z0, zW⟩ := w1 rfl
  refine bD 167 [] Tryd.func38 rfl rfl rfl rfl ?_
  refine aB fun K hK => ?_
  refine aA rfl ?_
  simp only [RR, seval]
  refine aK fun b3 hn3 => ?_
  have nb3_r : b3 ≠ r := fun e => by rw [e] at hn3; simp only [hr, seval, reduceCtorEq] at hn3
  have nr_b3 : r ≠ b3 := fun e => nb3_r e.symm
  simp only [RR, seval]
  refine hK _ _ ?_; clear hK K
  refine aJ ?_
  refine aB fun K hK => ?_
  refine aA rfl ?_
  simp only [RR, seval]
  refine hK _ _ ?_; clear hK K
  refine aQ ?_
  refine aB fun K hK => ?_
  refine aA rfl ?_
  simp only [RR, seval]
  refine hK _ _ ?_; clear hK K
  refine aI false rfl (fun hc => by cases hc) (fun _ => ?_)
  refine aB fun K hK => ?_
  refine aA rfl ?_
  simp only [RR, seval]
  refine hK _ _ ?_; clear hK K
  refine aI false rfl (fun hc => by cases hc) (fun _ => ?_)
  refine aB fun K hK => ?_
  refine aA rfl ?_
  simp only [RR, seval]
  refine hK _ _ ?_; clear hK K
  refine aI false rfl (fun hc => by cases hc) (fun _ => ?_)
  refine aL ?_; try simp only [RR]
  refine bG fun F1 M1 hfr hH => ?_
  have g0 := hfr 0
  have g3 := hfr 3
  have gr := hH r
  have gb3 := hH b3
  try simp only [hr, nr_b3, RR, seval] at g0 g3 gr gb3
  have hM := funext hH
  have hR0 := (hR.new hn3 _).same hH
  have hk0 : bO r w vo vo H M1 := by rw [hM]; exact (bO.refl _ _ _ _).updN hn3 _
  have f0 := g0; clear g0
  have f3 := g3; clear g3
  have hr := gr; clear gr
  have hb3 := gb3; clear gb3
  clear hfr hH
  refine aB fun K hK => ?_
  refine aA rfl ?_
  simp only [f0, f3, hb3, hg0, RR, seval]
  refine gI (hVa _ hR0) (fun _ => trivial) fun x vo1 vl1 H1 ux hwv1 hne1 hvl1 hR1 hk1 => ?_
  have hr := hR1.r
  have hb3 := hR0.keep hb3 (by decide) (by decide) hk1
  simp only [RR, seval]
  refine hK _ _ ?_; clear hK K
  refine aJ ?_
  refine aB fun K hK => ?_
  refine aA rfl ?_
  simp only [f0, hr, RR, seval]
  refine hK _ _ ?_; clear hK K
  refine aI _ rfl (fun hc18 => ?_) (fun hc18 => ?_)
  ·obtain ⟨e1, s1, rfl⟩ := fO (o := r1) (by simpa using hc18)
   obtain rfl := Option.some.inj (show some (Rz.fin e1 s1) = some o from h)
   refine aP ?_; simp only [aV, aM, bE, RR, seval]
   exact aU.run ⟨vo1, vl1, rfl, (fun _ _ e => by cases e; exact hne1 _ _ rfl), hvl1, (fun _ _ e => by cases e), hR1, hk0.trans hk1⟩
  obtain ⟨x1, s1, rfl⟩ := fF (o := r1) hne1 (by simpa using hc18)
  obtain rfl := hwv1 _ _ rfl
  simp only [bindR, aZ] at h
  obtain ⟨s2, hs2, rfl⟩ := h
  obtain ⟨_, zl, rfl, y, hy⟩ := mM hs2
  have hgy := fQ hy
  have hR1 : dR cx fu W r w s1 vo1 0 false vl1 H1 := hR1
  have hr := hR1.r
  have hw := hR1.v
  have nwr := hR1.bwr
  have nrw : r ≠ w := Ne.symm nwr
  have nb3_w := hR1.nbw hb3 (by decide)
  have nw_b3 : w ≠ b3 := Ne.symm nb3_w
  refine aL ?_; try simp only [RR]
  refine aB fun K hK => ?_
  refine aA rfl ?_
  simp only [f3, hb3, RR, seval]
  refine hK _ _ ?_; clear hK K
  refine aQ ?_
  refine aB fun K hK => ?_
  refine aA rfl ?_
  simp only [RR, seval]
  refine hK _ _ ?_; clear hK K
  refine aI true rfl (fun _ => ?_) (fun hc => by cases hc)
  refine bC (fun _ => True) [(0, 3), (1, 3), (2, 3), (3, 1), (4, 3), (5, 1), (6, 3), (7, 3)] [(8, 1)] dB (by kernel_rfl) rfl rfl ?_
  simp only [bW, f0, f3, hr, hb3, hw, z0, zl, hgy, RR, seval]
  try simp only [aV, aM, bE, seval]
  exact aU.run ⟨vo1, vl1, rfl, (fun _ _ e => by cases e), hvl1, (fun _ _ e => by cases e), hR1.setV a.toNat x ux, (hk0.trans hk1).trans (bO.vars _)⟩
 ·simp only [show ¬ (2 : Int) = 1 by decide, if_false, if_true] at h
  obtain ⟨a0, a1, a2, a3, a4⟩ := w2 rfl
  have ez : IntKind.wrap .u64 z = z := by simp [IntKind.wrap, IntKind.signed, IntKind.bits]; omega
  cases hl1 : l[1]? with
  | none => rw [hl1] at h; cases h
  | some d =>
    simp only [hl1] at h
    rw [h1] at h
    have hg1 := jF hl1
    have hVb := fun vo vl st' H' r2 g1 g2 g3 => hV 1 d hl1 st' vo vl H' r2 g1 g2 g3
    rw [d.row_eq] at hVb
    refine bD 167 [] Tryd.func38 rfl rfl rfl rfl ?_
    refine aB fun K hK => ?_
    refine aA rfl ?_
    simp only [RR, seval]
    refine aK fun b3 hn3 => ?_
    have nb3_r : b3 ≠ r := fun e => by rw [e] at hn3; simp only [hr, seval, reduceCtorEq] at hn3
    have nr_b3 : r ≠ b3 := fun e => nb3_r e.symm
    simp only [RR, seval]
    refine hK _ _ ?_; clear hK K
    refine aJ ?_
    refine aB fun K hK => ?_
    refine aA rfl ?_
    simp only [RR, seval]
    refine hK _ _ ?_; clear hK K
    refine aQ ?_
    refine aB fun K hK => ?_
    refine aA rfl ?_
    simp only [RR, seval]
    refine hK _ _ ?_; clear hK K
    refine aI false rfl (fun hc => by cases hc) (fun _ => ?_)
    refine aB fun K hK => ?_
    refine aA rfl ?_
    simp only [RR, seval]
    refine hK _ _ ?_; clear hK K
    refine aI false rfl (fun hc => by cases hc) (fun _ => ?_)
    refine aB fun K hK => ?_
    refine aA rfl ?_
    simp only [RR, seval]
    refine hK _ _ ?_; clear hK K
    refine aI false rfl (fun hc => by cases hc) (fun _ => ?_)
    refine aL ?_; try simp only [RR]
    refine bG fun F1 M1 hfr hH => ?_
    have g0 := hfr 0
    have g3 := hfr 3
    have gr := hH r
    have gb3 := hH b3
    try simp only [hr, nr_b3, RR, seval] at g0 g3 gr gb3
    have hM := funext hH
    have hR0 := (hR.new hn3 _).same hH
    have hk0 : bO r w vo vo H M1 := by rw [hM]; exact (bO.refl _ _ _ _).updN hn3 _
    have f0 := g0; clear g0
    have f3 := g3; clear g3
    have hr := gr; clear gr
    have hb3 := gb3; clear gb3
    clear hfr hH
    refine aB fun K hK => ?_
    refine aA rfl ?_
    simp only [f0, f3, hb3, hg0, RR, seval]
    refine gI (hVa _ hR0) (fun _ => trivial) fun x vo1 vl1 H1 ux hwv1 hne1 hvl1 hR1 hk1 => ?_
    have hr := hR1.r
    have hb3 := hR0.keep hb3 (by decide) (by decide) hk1
    simp only [RR, seval]
    refine hK _ _ ?_; clear hK K
    refine aJ ?_
    refine aB fun K hK => ?_
    refine aA rfl ?_
    simp only [f0, hr, RR, seval]
    refine hK _ _ ?_; clear hK K
    refine aI _ rfl (fun hc18 => ?_) (fun hc18 => ?_)
    ·obtain ⟨e1, s1, rfl⟩ := fO (o := r1) (by simpa using hc18)
     obtain rfl := Option.some.inj (show some (Rz.fin e1 s1) = some o from h)
     refine aP ?_; simp only [aV, aM, bE, RR, seval]
     exact aU.run ⟨vo1, vl1, rfl, (fun _ _ e => by cases e; exact hne1 _ _ rfl), hvl1, (fun _ _ e => by cases e), hR1, hk0.trans hk1⟩
    obtain ⟨x1, s1, rfl⟩ := fF (o := r1) hne1 (by simpa using hc18)
    obtain rfl := hwv1 _ _ rfl
    simp only [bindR] at h
    have hR1 : dR cx fu W r w s1 vo1 0 false vl1 H1 := hR1
    have hr := hR1.r
    obtain ⟨r2, h2⟩ : ∃ r2, fJ cx n d s1 = some r2 := by
     cases h2 : fJ cx n d s1 with
     | none => rw [h2] at h; cases h
     | some r2 => exact ⟨r2, rfl⟩
    rw [h2] at h
    refine aL ?_; try simp only [RR]
    refine aB fun K hK => ?_
    refine aA rfl ?_
    simp only [f3, hb3, RR, seval]
    refine hK _ _ ?_; clear hK K
    refine aQ ?_
    refine aB fun K hK => ?_
    refine aA rfl ?_
    simp only [RR, seval]
    refine hK _ _ ?_; clear hK K
    refine aI false rfl (fun hc => by cases hc) (fun _ => ?_)
    refine aB fun K hK => ?_
    refine aA rfl ?_
    simp only [RR, seval]
    refine hK _ _ ?_; clear hK K
    refine aI true rfl (fun _ => ?_) (fun hc => by cases hc)
    refine aB fun K hK => ?_
    refine aA rfl ?_
    simp only [f0, f3, hb3, hg1, RR, seval]
    refine gI (hVb _ _ _ _ _ hvl1 hR1 h2) (fun _ => trivial) fun y vo2 vl2 H2 uy hwv2 hne2 hvl2 hR2 hk2 => ?_
    have hr := hR2.r
    have hb3 := hR1.keep hb3 (by decide) (by decide) hk2
    have hk02 := (hk0.trans hk1).trans hk2
    simp only [RR, seval]
    refine hK _ _ ?_; clear hK K
    refine aJ ?_
    refine aB fun K hK => ?_
    refine aA rfl ?_
    simp only [f0, hr, RR, seval]
    refine hK _ _ ?_; clear hK K
    refine aI _ rfl (fun hc27 => ?_) (fun hc27 => ?_)
    ·obtain ⟨e1, s2, rfl⟩ := fO (o := r2) (by simpa using hc27)
     obtain rfl := Option.some.inj (show some (Rz.fin e1 s2) = some o from h)
     refine aP ?_; simp only [aV, aM, bE, RR, seval]
     exact aU.run ⟨vo2, vl2, rfl, (fun _ _ e => by cases e; exact hne2 _ _ rfl), hvl2, (fun _ _ e => by cases e), hR2, hk02⟩
    obtain ⟨x2, s2, rfl⟩ := fF (o := r2) hne2 (by simpa using hc27)
    obtain rfl := hwv2 _ _ rfl
    simp only [] at h
    have hR2 : dR cx fu W r w s2 vo2 0 false vl2 H2 := hR2
    have hr := hR2.r
    have hw := hR2.v
    have nwr := hR2.bwr
    have nrw : r ≠ w := Ne.symm nwr
    have nb3_w := hR2.nbw hb3 (by decide)
    have nw_b3 : w ≠ b3 := Ne.symm nb3_w
    have ex : IntKind.wrap .u64 x = x := by have := ux.1; have := ux.2; simp [IntKind.wrap, IntKind.signed, IntKind.bits]; omega
    have ex2 : IntKind.wrap .i64 x = x := aR _ (by have := ux.1; have := ux.2; omega)
    refine aL ?_; try simp only [RR]
    refine aJ ?_
    refine aB fun K hK => ?_
    refine aA rfl ?_
    simp only [f3, hb3, ez, ex, RR, seval]
    refine hK _ _ ?_; clear hK K
    refine aI _ rfl (fun hc28 => ?_) (fun hc28 => ?_)
    ·have hxz : ¬ x < z := by have := aC hc28; omega
     unfold He at h
     rw [if_neg hxz] at h
     obtain rfl := Option.some.inj (show some (Rz.fin 3 s2) = some o from h)
     refine aB fun K hK => ?_
     refine aA rfl ?_
     simp only [f0, hr, RR, seval]
     refine hK _ _ ?_; clear hK K
     refine aP ?_; simp only [aV, aM, bE, RR, seval]
     exact aU.run ⟨vo2, vl2, rfl, (fun _ _ e => by cases e; decide), hvl2, (fun _ _ e => by cases e), hR2.turn 3 false vl2 rfl rfl hR2.rd hR2.tk, hk02.trans (bO.run _)⟩
    have hxz : x < z := by have := aF hc28; omega
    unfold He at h
    rw [if_pos hxz] at h
    simp only [aZ] at h
    obtain ⟨s3, hs3, rfl⟩ := h
    obtain ⟨z0, zl, rfl, v, hv⟩ := mM hs3
    have hgy := fQ hv
    have eax : IntKind.wrap .i64 (a + x) = a + x := aR _ (by have := ux.1; omega)
    refine aL ?_; try simp only [RR]
    refine bC (fun _ => True) [(0, 3), (1, 3), (2, 3), (3, 1), (4, 3), (5, 1), (6, 3), (7, 3), (8, 3), (9, 3), (10, 3)] [(11, 1)] dB (by kernel_rfl) rfl rfl ?_
    simp only [bW, f0, f3, hr, hb3, hw, ex2, z0, zl, hgy, eax, RR, seval]
    try simp only [aV, aM, bE, seval]
    exact aU.run ⟨vo2, vl2, rfl, (fun _ _ e => by cases e), hvl2, (fun _ _ e => by cases e), hR2.setV (a + x).toNat y uy, hk02.trans (bO.vars _)⟩
 ·simp only [show ¬ (3 : Int) = 1 by decide, show ¬ (3 : Int) = 2 by decide, if_false, if_true] at h
  rw [h1] at h
  refine bD 167 [] Tryd.func38 rfl rfl rfl rfl ?_
  refine aB fun K hK => ?_
  refine aA rfl ?_
  simp only [RR, seval]
  refine aK fun b3 hn3 => ?_
  have nb3_r : b3 ≠ r := fun e => by rw [e] at hn3; simp only [hr, seval, reduceCtorEq] at hn3
  have nr_b3 : r ≠ b3 := fun e => nb3_r e.symm
  simp only [RR, seval]
  refine hK _ _ ?_; clear hK K
  refine aJ ?_
  refine aB fun K hK => ?_
  refine aA rfl ?_
  simp only [RR, seval]
  refine hK _ _ ?_; clear hK K
  refine aQ ?_
  refine aB fun K hK => ?_
  refine aA rfl ?_
  simp only [RR, seval]
  refine hK _ _ ?_; clear hK K
  refine aI false rfl (fun hc => by cases hc) (fun _ => ?_)
  refine aB fun K hK => ?_
  refine aA rfl ?_
  simp only [RR, seval]
  refine hK _ _ ?_; clear hK K
  refine aI false rfl (fun hc => by cases hc) (fun _ => ?_)
  refine aB fun K hK => ?_
  refine aA rfl ?_
  simp only [RR, seval]
  refine hK _ _ ?_; clear hK K
  refine aI false rfl (fun hc => by cases hc) (fun _ => ?_)
  refine aL ?_; try simp only [RR]
  refine bG fun F1 M1 hfr hH => ?_
  have g0 := hfr 0
  have g3 := hfr 3
  have gr := hH r
  have gb3 := hH b3
  try simp only [hr, nr_b3, RR, seval] at g0 g3 gr gb3
  have hM := funext hH
  have hR0 := (hR.new hn3 _).same hH
  have hk0 : bO r w vo vo H M1 := by rw [hM]; exact (bO.refl _ _ _ _).updN hn3 _
  have f0 := g0; clear g0
  have f3 := g3; clear g3
  have hr := gr; clear gr
  have hb3 := gb3; clear gb3
  clear hfr hH
  refine aB fun K hK => ?_
  refine aA rfl ?_
  simp only [f0, f3, hb3, hg0, RR, seval]
  refine gI (hVa _ hR0) (fun _ => trivial) fun x vo1 vl1 H1 ux hwv1 hne1 hvl1 hR1 hk1 => ?_
  have hr := hR1.r
  have hb3 := hR0.keep hb3 (by decide) (by decide) hk1
  simp only [RR, seval]
  refine hK _ _ ?_; clear hK K
  refine aJ ?_
  refine aB fun K hK => ?_
  refine aA rfl ?_
  simp only [f0, hr, RR, seval]
  refine hK _ _ ?_; clear hK K
  refine aI _ rfl (fun hc18 => ?_) (fun hc18 => ?_)
  ·obtain ⟨e1, s1, rfl⟩ := fO (o := r1) (by simpa using hc18)
   obtain rfl := Option.some.inj (show some (Rz.fin e1 s1) = some o from h)
   refine aP ?_; simp only [aV, aM, bE, RR, seval]
   exact aU.run ⟨vo1, vl1, rfl, (fun _ _ e => by cases e; exact hne1 _ _ rfl), hvl1, (fun _ _ e => by cases e), hR1, hk0.trans hk1⟩
  obtain ⟨x1, s1, rfl⟩ := fF (o := r1) hne1 (by simpa using hc18)
  obtain rfl := hwv1 _ _ rfl
  simp only [bindR] at h
  have hR1 : dR cx fu W r w s1 vo1 0 false vl1 H1 := hR1
  have hr := hR1.r
  have h : bindR (some (lQ x s1)) (fun _ st => some (Rz.val (none : Option Int) st)) = some o := h
  have hown := hR1.o
  have hub := hR1.ub
  have hvo : ∃ m, s1.out.length = m ∧ (vo1 = .nsl ∧ m = 0 ∨ ∃ b, vo1 = .osl 1 b m) := ⟨_, rfl, by
   rcases hown with ⟨h1, h2⟩ | ⟨b, h1, h2⟩
   ·exact .inl ⟨h1, by simpa using h2⟩
   exact .inr ⟨b, by simpa using h1⟩⟩
  obtain ⟨m, hm, hvo⟩ := hvo
  have em : IntKind.wrap .u8 (x.tmod 256) = IntKind.wrap .u8 x := by
   obtain ⟨q, rfl⟩ := Int.eq_ofNat_of_zero_le ux.1
   rw [show ((q : Int)).tmod 256 = ((q % 256 : Nat) : Int) from iE q 256]
   simp [IntKind.wrap, IntKind.signed, IntKind.bits]
  have em0 : IntKind.wrap .u32 (x.tmod 256) = x.tmod 256 := by
   obtain ⟨q, rfl⟩ := Int.eq_ofNat_of_zero_le ux.1
   rw [show ((q : Int)).tmod 256 = ((q % 256 : Nat) : Int) from iE q 256, Oz _ (by omega)]
  have hc : ((UInt8.ofNat (IntKind.wrap .u8 x).toNat).toNat : Int) = IntKind.wrap .u8 x := by
   have h1 : IntKind.wrap .u8 x = x % 256 := by simp [IntKind.wrap, IntKind.signed, IntKind.bits]
   rw [h1]
   have := Int.emod_nonneg x (show (256 : Int) ≠ 0 by decide)
   have := Int.emod_lt_of_pos x (show (0 : Int) < 256 by decide)
   simp only [UInt8.toNat_ofNat']
   omega
  have hrow : [AV.int .u8 (IntKind.wrap .u8 x)] = nD (UInt8.ofNat (IntKind.wrap .u8 x).toNat) := by unfold nD; rw [hc]
  rcases hvo with ⟨rfl, rfl⟩ | ⟨b, rfl⟩
  all_goals
   refine aL ?_; try simp only [RR]
   refine aB fun K hK => ?_
   refine aA rfl ?_
   simp only [f3, hb3, RR, seval]
   refine hK _ _ ?_; clear hK K
   refine aQ ?_
   refine aB fun K hK => ?_
   refine aA rfl ?_
   simp only [RR, seval]
   refine hK _ _ ?_; clear hK K
   refine aI false rfl (fun hc => by cases hc) (fun _ => ?_)
   refine aB fun K hK => ?_
   refine aA rfl ?_
   simp only [RR, seval]
   refine hK _ _ ?_; clear hK K
   refine aI false rfl (fun hc => by cases hc) (fun _ => ?_)
   refine aB fun K hK => ?_
   refine aA rfl ?_
   simp only [RR, seval]
   refine hK _ _ ?_; clear hK K
   refine aI true rfl (fun _ => ?_) (fun hc => by cases hc)
   refine aJ ?_
   refine aB fun K hK => ?_
   refine aA rfl ?_
   simp only [f0, hr, RR, seval]
   refine hK _ _ ?_; clear hK K
   refine aI _ rfl (fun hc32 => ?_) (fun hc32 => ?_)
   ·try (cases hc32; done)
    all_goals
     have zf : 65536 ≤ s1.out.length := by have := aC hc32; omega
     unfold lQ at h
     rw [if_pos zf] at h
     cases h
     refine aB fun K hK => ?_
     refine aA rfl ?_
     simp only [f0, hr, RR, seval]
     refine hK _ _ ?_; clear hK K
     refine aP ?_; simp only [aV, aM, bE, RR, seval]
     exact aU.run ⟨_, vl1, rfl, (fun _ _ e => by cases e; decide), hvl1, (fun _ _ e => by cases e), dR.turn hR1 4 false vl1 rfl rfl hR1.rd hR1.tk, (hk0.trans hk1).trans (bO.run _)⟩
   try (cases hc32; done)
   all_goals
    have zf : ¬ 65536 ≤ s1.out.length := by first | omega | (have := aF hc32; omega)
    unfold lQ at h
    rw [if_neg zf] at h
    cases h
    refine aL ?_; try simp only [RR]
    refine aA rfl ?_
    simp only [f0, hr, em, RR, seval]
    refine eB ?_
    simp only [RR, seval]
    refine kK hown (by simp only [aD, bX, List.length_nil]; omega) (fun _ _ => trivial) fun v' H' ho' hk' hg' => ?_
    have hce := ho'.cells
    have hoe := ho'.one1
    have hr := hk' r _ hr (hown.offsz hr (by decide) _ _)
    simp only [hce, hoe, Option.bind_some, List.drop, hr, RR, seval]
    rw [hrow] at ho'
    obtain ⟨g1, g2⟩ := hR1.put (by omega) ho' hk' hg'
    have hkf := (hk0.trans hk1).trans g2
    try simp only [aV, aM, bE]
    exact aU.run ⟨v', vl1, rfl, (fun _ _ e => by cases e), hvl1, (fun _ _ e => by cases e), g1, hkf⟩
 simp only [show ¬ (4 : Int) = 1 by decide, show ¬ (4 : Int) = 2 by decide, show ¬ (4 : Int) = 3 by decide, if_false, if_true] at h
 rw [h1] at h
 refine bD 167 [] Tryd.func38 rfl rfl rfl rfl ?_
 refine aB fun K hK => ?_
 refine aA rfl ?_
 simp only [RR, seval]
 refine aK fun b3 hn3 => ?_
 have nb3_r : b3 ≠ r := fun e => by rw [e] at hn3; simp only [hr, seval, reduceCtorEq] at hn3
 have nr_b3 : r ≠ b3 := fun e => nb3_r e.symm
 simp only [RR, seval]
 refine hK _ _ ?_; clear hK K
 refine aJ ?_
 refine aB fun K hK => ?_
 refine aA rfl ?_
 simp only [RR, seval]
 refine hK _ _ ?_; clear hK K
 refine aQ ?_
 refine aB fun K hK => ?_
 refine aA rfl ?_
 simp only [RR, seval]
 refine hK _ _ ?_; clear hK K
 refine aI false rfl (fun hc => by cases hc) (fun _ => ?_)
 refine aB fun K hK => ?_
 refine aA rfl ?_
 simp only [RR, seval]
 refine hK _ _ ?_; clear hK K
 refine aI false rfl (fun hc => by cases hc) (fun _ => ?_)
 refine aB fun K hK => ?_
 refine aA rfl ?_
 simp only [RR, seval]
 refine hK _ _ ?_; clear hK K
 refine aI false rfl (fun hc => by cases hc) (fun _ => ?_)
 refine aL ?_; try simp only [RR]
 refine bG fun F1 M1 hfr hH => ?_
 have g0 := hfr 0
 have g3 := hfr 3
 have gr := hH r
 have gb3 := hH b3
 try simp only [hr, nr_b3, RR, seval] at g0 g3 gr gb3
 have hM := funext hH
 have hR0 := (hR.new hn3 _).same hH
 have hk0 : bO r w vo vo H M1 := by rw [hM]; exact (bO.refl _ _ _ _).updN hn3 _
 have f0 := g0; clear g0
 have f3 := g3; clear g3
 have hr := gr; clear gr
 have hb3 := gb3; clear gb3
 clear hfr hH
 refine aB fun K hK => ?_
 refine aA rfl ?_
 simp only [f0, f3, hb3, hg0, RR, seval]
 refine gI (hVa _ hR0) (fun _ => trivial) fun x vo1 vl1 H1 ux hwv1 hne1 hvl1 hR1 hk1 => ?_
 have hr := hR1.r
 have hb3 := hR0.keep hb3 (by decide) (by decide) hk1
 simp only [RR, seval]
 refine hK _ _ ?_; clear hK K
 refine aJ ?_
 refine aB fun K hK => ?_
 refine aA rfl ?_
 simp only [f0, hr, RR, seval]
 refine hK _ _ ?_; clear hK K
 refine aI _ rfl (fun hc18 => ?_) (fun hc18 => ?_)
 ·obtain ⟨e1, s1, rfl⟩ := fO (o := r1) (by simpa using hc18)
  obtain rfl := Option.some.inj (show some (Rz.fin e1 s1) = some o from h)
  refine aP ?_; simp only [aV, aM, bE, RR, seval]
  exact aU.run ⟨vo1, vl1, rfl, (fun _ _ e => by cases e; exact hne1 _ _ rfl), hvl1, (fun _ _ e => by cases e), hR1, hk0.trans hk1⟩
 obtain ⟨x1, s1, rfl⟩ := fF (o := r1) hne1 (by simpa using hc18)
 obtain rfl := hwv1 _ _ rfl
 simp only [bindR] at h
 have hR1 : dR cx fu W r w s1 vo1 0 false vl1 H1 := hR1
 have hr := hR1.r
 refine aL ?_; try simp only [RR]
 refine aB fun K hK => ?_
 refine aA rfl ?_
 simp only [f3, hb3, RR, seval]
 refine hK _ _ ?_; clear hK K
 refine aQ ?_
 refine aB fun K hK => ?_
 refine aA rfl ?_
 simp only [RR, seval]
 refine hK _ _ ?_; clear hK K
 refine aI false rfl (fun hc => by cases hc) (fun _ => ?_)
 refine aB fun K hK => ?_
 refine aA rfl ?_
 simp only [RR, seval]
 refine hK _ _ ?_; clear hK K
 refine aI false rfl (fun hc => by cases hc) (fun _ => ?_)
 refine aB fun K hK => ?_
 refine aA rfl ?_
 simp only [RR, seval]
 refine hK _ _ ?_; clear hK K
 refine aI false rfl (fun hc => by cases hc) (fun _ => ?_)
 refine aB fun K hK => ?_
 refine aA rfl ?_
 simp only [RR, seval]
 refine hK _ _ ?_; clear hK K
 refine aI _ rfl (fun hc20 => ?_) (fun hc20 => ?_)
 ·have hx0 : ¬ x = 0 := by simpa using hc20
  rw [if_neg hx0] at h
  have hL := ih.L i t s1 vo1 vl1 H1 o hth wt hdt hvl1 hR1 h
  refine aA rfl ?_
  simp only [f0, f3, hb3, RR, seval]
  refine tO hL (fun _ => trivial) fun vo2 vl2 H2 hne2 hvl2 hv2 hR2 hk2 => ?_
  simp only [RR, seval]
  try simp only [aV, aM, bE, seval]
  exact aU.run ⟨vo2, vl2, rfl, hne2, hvl2, hv2, hR2, (hk0.trans hk1).trans hk2⟩
 have hx0 : x = 0 := by simpa using hc20
 rw [if_pos hx0] at h
 have hL := ih.L i u s1 vo1 vl1 H1 o hel wu hdu hvl1 hR1 h
 refine aA rfl ?_
 simp only [f0, f3, hb3, RR, seval]
 refine tO hL (fun _ => trivial) fun vo2 vl2 H2 hne2 hvl2 hv2 hR2 hk2 => ?_
 simp only [RR, seval]
 try simp only [aV, aM, bE, seval]
 exact aU.run ⟨vo2, vl2, rfl, hne2, hvl2, hv2, hR2, (hk0.trans hk1).trans hk2⟩
end
end Go.Proofs.YtnfbbjhdflhmjaaDoor
