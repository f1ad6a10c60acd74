/- Chapter 19, the judge's: Run; CoreRuns. -/
import Derived.Test.YtnfbbjhdflhmjaaDoorGQd
import Derived.Test.YtnfbbjhdflhmjaaDoorGKh
import Derived.Test.YtnfbbjhdflhmjaaDoorGLu
set_option linter.unusedSimpArgs false
set_option linter.unusedVariables false
set_option maxRecDepth 10000
namespace Go.Al
theorem dR.seal {cx : Kx} {fu : Int} {W r w : Nat} {st : RS} {vo : AV} {en : Int} {bo : Bool} {vl : Int} {H : Hp} {E : fC} {N : Nat} {Q : dN} {c : Code} {fr : Fr} (hR : dR cx fu W r w st vo en bo vl H)
  (h : ∀ fr' H', (∀ j, jV (fr j) = true → fr' j = fr j) → H' r = some (.rows 11 [[.int .i64 (W : Int), .isl 5 (cx.funs.map CF.row), .osl 1 w st.vars.length, .str cx.inp, .int .i64 st.read, .isl 1 (st.out.map nD), .int .i64 st.ticks, .int .i64 fu, .int .i64 en, .bool bo, .int .u32 vl]]) →
   (∀ b s l, b ≠ r → off vo b → (∀ r ∈ l, ∀ x ∈ r, jV x = true) → H b = some (.rows s l) → H' b = some (.rows s l)) → gO E N c Q fr' H') : gO E N c Q fr H := by
 have h0 : H r = some (.rows 11 [[AV.int .i64 (W : Int), .isl 5 (cx.funs.map CF.row), .osl 1 w st.vars.length, .str cx.inp, .int .i64 st.read] ++ vo :: [.int .i64 st.ticks, .int .i64 fu, .int .i64 en, .bool bo, .int .u32 vl]]) := hR.r
 refine tN hR.o h0 (fun x hx => ?_) (fun x hx => ?_) (hR.o.offsz hR.r (by decide)) fun fr' H' h1 h2 h3 => h fr' H' (fun j hj => h1 j (eI hj)) h2 fun b s l g1 g2 g3 g4 => h3 b s l g1 g2 (fun r hr x hx => eI (g3 r hr x hx)) g4
 ·simp only [List.mem_cons, List.not_mem_nil, or_false] at hx
  rcases hx with rfl | rfl | rfl | rfl | rfl
  ·exact eI rfl
  ·exact eI rfl
  ·intro s b n e
   cases e
   exact hR.ov
  ·exact eI rfl
  exact eI rfl
 simp only [List.mem_cons, List.not_mem_nil, or_false] at hx
 rcases hx with rfl | rfl | rfl | rfl | rfl <;> exact eI rfl
theorem A8 (w : Int) (B : List CF) (wd : Bool) (N : Nat) : ∀ (e : CS) (lv : Int), e.sz ≤ N → fN w B wd e lv = true → Xn e := by
 induction N with
 | zero => intro e _ he; have := e.sz_eq; omega
 | succ N ih =>
   rintro ⟨k, a, z, l, t, u⟩ lv he hr
   simp only [CS.sz] at he
   simp only [fN, aX] at hr
   obtain ⟨⟨⟨⟨_, hf⟩, _⟩, ht⟩, hu⟩ := hr
   have body : ∀ l : List CS, cP l ≤ N → cR w B wd l (lv + 1) = true → oX l := by
    intro l
    induction l with
    | nil => intro _ _; simp only [oX]
    | cons e l ihl =>
      intro hs hr
      simp only [cP] at hs
      simp only [cR, aX] at hr
      simp only [oX]
      exact ⟨ih e _ (by omega) hr.1, ihl (by omega) hr.2⟩
   simp only [Xn]
   refine ⟨?_, body t (by omega) ht, body u (by omega) hu⟩
   have hF : lU w B wd (.mk k a z l t u) = ((decide (k = 2) || decide (z = 0)) && (decide (k = 1) || decide (k = 2) || decide (k = 6) || decide (a = 0)) && (decide (k = 4) || decide (u.length = 0)) && (decide (k = 4) || decide (k = 5) || decide (t.length = 0)) &&
    (if k = 1 then cF w a 1 && decide (l.length = 1) else if k = 2 then decide (1 ≤ z) && decide (z ≤ 4096) && cF w a z && decide (l.length = 2) else if k = 3 ∨ k = 4 ∨ k = 5 then decide (l.length = 1)
     else if k = 6 then eT B a l.length false else if k = 7 then decide (l.length = 0) || wd && decide (l.length = 1) else false)) := rfl
   rw [hF, aX] at hf
   have hf := hf.2
   by_cases k1 : 1 ≤ k ∧ k ≤ 7
   ·exact k1
   rw [if_neg (show ¬ k = 1 by omega), if_neg (show ¬ k = 2 by omega), if_neg (show ¬ (k = 3 ∨ k = 4 ∨ k = 5) by omega), if_neg (show ¬ k = 6 by omega), if_neg (show ¬ k = 7 by omega)] at hf
   cases hf
theorem Rp {w : Int} {B : List CF} {wd : Bool} : ∀ (l : List CS) (lv : Int), cR w B wd l lv = true → oX l
 | [], _, _ => by simp only [oX]
 | e :: l, lv, hr => by
   simp only [cR, aX] at hr
   simp only [oX]
   exact ⟨A8 w B wd e.sz e lv (aY _) hr.1, Rp l lv hr.2⟩
theorem D9 {c : Co} (h : iA c = true) : ∀ f ∈ c.funs, oX f.body := fun f hf => by
 simp only [iA, aX] at h
 obtain ⟨⟨⟨⟨⟨⟨_, _⟩, _⟩, _⟩, _⟩, h6⟩, _⟩ := h
 obtain ⟨i, hi⟩ := List.getElem?_of_mem hf
 have := kZ (words := c.words) (fs := c.funs) c.funs 0 (by simp) (by simpa using h6) i f hi
 exact Rp _ _ this
end Go.Al
namespace Go.Proofs.YtnfbbjhdflhmjaaDoor
open Go.Al
set_option maxHeartbeats 4000000 in
theorem Ta (c : Co) (hw0 : 0 ≤ c.words) (hx0 : tW (qQ c [] 0) c.words.toNat) (hkd : ∀ f ∈ c.funs, oX f.body) (hf1 : 1 ≤ c.funs.length) (hf2 : c.funs.length ≤ 10000) (inp : dL) (hin : inp.length ≤ 2000000) (fu : Int) (hfu : cX fu) {n : Nat} {e : Int} {out : dL} {t : Nat} (hrun : nB (qQ c inp fu) n c.words.toNat = some (e, out, t)) :
  dG cO 11 [c.av, .str inp, .int .i64 fu] (vA e out t) := by
 have hfl : ((qQ c inp fu).fuel : Int) = if fu < 0 then 0 else fu := by
  show (((if fu < 0 then 0 else fu).toNat : Nat) : Int) = _
  split <;> omega
 have hx : tW (qQ c inp fu) c.words.toNat := ⟨hin, by have := hfu.2; split at hfl <;> omega, hx0.wl, hx0.funs, hx0.body⟩
 have hq : Ot (qQ c inp fu) fu c.words.toNat := ⟨hx, fun t => by split at hfl <;> omega, hkd⟩
 have hlast : c.funs.length - 1 < c.funs.length := by omega
 have hg0 := aH hlast
 have hgw := hx.funs.body _ _ hg0
 have hgb := hx.body _ (bA hlast)
 have hgd := hkd _ (bA hlast)
 have hgl : c.funs.getLast? = some c.funs[c.funs.length - 1] := by rw [List.getLast?_eq_getElem?, aH hlast]
 generalize c.funs[c.funs.length - 1] = g at hg0 hgw hgb hgl hgd
 obtain ⟨o, hev, hend⟩ : ∃ o, gX (qQ c inp fu) n g.body ⟨List.replicate c.words.toNat 0, [], 0, [], 0⟩ = some o ∧ oN o = (e, out, t) := by
  unfold nB at hrun
  rw [show (qQ c inp fu).funs = c.funs from rfl, hgl] at hrun
  simp only [Option.bind_some, aZ] at hrun
  exact hrun
 clear hrun
 have hrowg := jE hg0
 have hcf : (qQ c inp fu).funs = c.funs := rfl
 have hci : (qQ c inp fu).inp = inp := rfl
 have hW := hx.wl
 have hWe : c.words = ((c.words.toNat : Nat) : Int) := by omega
 generalize c.words.toNat = W at *
 have hav : c.av = .agg [.int .i64 (W : Int), .isl 5 (c.funs.map CF.row)] := by unfold Co.av Co.row; rw [hWe]
 rw [hav]
 generalize qQ c inp fu = cx at *
 have e1 : (4 : Int) * (W : Int) ≤ 281474976710656 := by omega
 have e3 : IntKind.wrap .i64 ((c.funs.length : Int) - 1) = ((c.funs.length - 1 : Nat) : Int) := by rw [aR _ (by omega)]; omega
 have hzl : ((c.funs.length - 1 : Nat) : Int) < (c.funs.length : Int) := by omega
 have z0 : ¬ (c.funs.length : Int) = 0 := by omega
 refine bD 54 [.cell 6 29] Tryd.func11 rfl rfl rfl rfl ?_
 refine aB fun K hK => ?_
 refine aA rfl ?_
 simp only [RR, seval]
 refine aK fun b3 hn3 => ?_
 simp only [RR, seval]
 refine aK fun b6 hn6 => ?_
 have nb6_b3 : b6 ≠ b3 := fun e => by rw [e] at hn6; simp only [RR, seval, reduceCtorEq] at hn6
 have nb3_b6 : b3 ≠ b6 := fun e => nb6_b3 e.symm
 simp only [RR, seval]
 refine hK _ _ ?_; clear hK K
 refine aJ ?_
 refine aB fun K hK => ?_
 refine aA rfl ?_
 simp only [nb3_b6, z0, aD, RR, seval]
 refine hK _ _ ?_; clear hK K
 refine aI false rfl (fun hc => by cases hc) (fun _ => ?_)
 refine aL ?_; try simp only [RR]
 refine aB fun K hK => ?_
 refine bC (fun x => x ≠ b3 ∧ x ≠ b6) [(0, 0), (1, 3), (2, 1), (4, 3), (5, 3), (3, 1), (6, 3), (7, 1), (8, 3)] [] dB (by kernel_rfl) rfl rfl ?_
 simp only [bW, dJ, nb3_b6, e1, RR, seval]
 refine aK fun b16 hn16 => ?_
 have nb16_b3 : b16 ≠ b3 := fun e => by rw [e] at hn16; simp only [nb3_b6, RR, seval, reduceCtorEq] at hn16
 have nb3_b16 : b3 ≠ b16 := fun e => nb16_b3 e.symm
 have nb16_b6 : b16 ≠ b6 := fun e => by rw [e] at hn16; simp only [RR, seval, reduceCtorEq] at hn16
 have nb6_b16 : b6 ≠ b16 := fun e => nb16_b6 e.symm
 simp only [RR, seval]
 refine aK fun b20 hn20 => ?_
 have nb20_b3 : b20 ≠ b3 := fun e => by rw [e] at hn20; simp only [nb3_b6, nb3_b16, RR, seval, reduceCtorEq] at hn20
 have nb3_b20 : b3 ≠ b20 := fun e => nb20_b3 e.symm
 have nb20_b6 : b20 ≠ b6 := fun e => by rw [e] at hn20; simp only [nb6_b16, RR, seval, reduceCtorEq] at hn20
 have nb6_b20 : b6 ≠ b20 := fun e => nb20_b6 e.symm
 have nb20_b16 : b20 ≠ b16 := fun e => by rw [e] at hn20; simp only [RR, seval, reduceCtorEq] at hn20
 have nb16_b20 : b16 ≠ b20 := fun e => nb20_b16 e.symm
 simp only [RR, seval]
 refine hK _ _ ?_; clear hK K
 refine bG fun F1 M1 hfr hH => ?_
 have g3 := hfr 3
 have g6 := hfr 6
 have g7 := hfr 7
 have gb3 := hH b3
 have gb6 := hH b6
 have gb16 := hH b16
 have gb20 := hH b20
 try simp only [nb3_b6, nb3_b16, nb6_b16, nb3_b20, nb6_b20, nb16_b20, RR, seval] at g3 g6 g7 gb3 gb6 gb16 gb20
 have hM := funext hH
 have hR : dR cx fu W b20 b16 ⟨List.replicate W 0, [], 0, [], 0⟩ .nsl 0 false 0 M1 := ⟨by rw [hcf, hci]; simpa using gb20, by simpa [fE] using gb16, .inl ⟨rfl, rfl⟩, (fun _ _ h => by cases h), (fun x hx => by rw [List.eq_of_mem_replicate hx]; exact mF), by simp, Nat.zero_le _, Nat.zero_le _, by simp⟩
 have f3 := g3; clear g3
 have f6 := g6; clear g6
 have f7 := g7; clear g7
 have hb3 := gb3; clear gb3
 have hb6 := gb6; clear gb6
 have hb16 := gb16; clear gb16
 have hb20 := gb20; clear gb20
 clear hfr hH
 refine aB fun K hK => ?_
 refine aA rfl ?_
 simp only [f3, f7, hb3, e3, hrowg, aD, RR, seval]
 refine tO ((J4 hq b20 b16 n).L (c.funs.length - 1) g.body _ .nsl 0 _ o hgb hgw hgd mF hR hev) (fun _ => trivial) fun vo1 vl1 H1 hne1 hvl1 hv1 hR1 hk1 => ?_
 have hb20 := hR1.r
 have hb6 := hR.keep hb6 (by decide) (by decide) hk1
 have nb6_b20 : b6 ≠ b20 := hR1.nbr hb6 (by decide)
 have nb20_b6 : b20 ≠ b6 := Ne.symm nb6_b20
 simp only [RR, seval]
 refine hK _ _ ?_; clear hK K
 refine aJ ?_
 refine aB fun K hK => ?_
 refine aA rfl ?_
 simp only [f7, hb20, RR, seval]
 refine hK _ _ ?_; clear hK K
 refine aI _ rfl (fun hc5 => ?_) (fun hc5 => ?_)
 ·obtain ⟨v0, s0, hro⟩ := fF (o := o) hne1 (by simpa using hc5)
  have he1 : e = 1 ∧ out = o.st.out ∧ t = o.st.ticks := by rw [hro] at hend ⊢; simp only [oN, Prod.mk.injEq] at hend; exact ⟨hend.1.symm, hend.2.1.symm, hend.2.2.symm⟩
  refine aA rfl ?_
  simp only [f7, hb20, RR, seval]
  have hRF := dR.turn (st' := o.st) hR1 1 (iO o) vl1 rfl rfl hR1.rd hR1.tk
  have hb6f := (cG H1 (some (.rows 11 [[.int .i64 (W : Int), .isl 5 (cx.funs.map CF.row), .osl 1 b16 o.st.vars.length, .str cx.inp, .int .i64 o.st.read, vo1, .int .i64 o.st.ticks, .int .i64 fu, .int .i64 1, .bool (iO o), .int .u32 vl1]])) nb6_b20).trans hb6
  have hene : (1 : Int) = e := he1.1.symm
  obtain ⟨_, ho1, ho2⟩ := he1
  refine dR.seal hRF fun FT HT hft hb20 hk2 => ?_
  have f6 : FT 6 = .ptr 3 b6 0 0 := (hft 6 (by simp only [aG, f6, seval]; rfl)).trans (by simp only [aG, f6, seval])
  have f7 : FT 7 = .ptr 11 b20 0 0 := (hft 7 (by simp only [aG, f7, seval]; rfl)).trans (by simp only [aG, f7, seval])
  have hb6 := hk2 b6 _ _ nb6_b20 (hRF.o.offsz hb6f (by decide)) (fun r hr x hx => by simp only [List.mem_singleton] at hr; subst hr; simp only [List.mem_cons, List.not_mem_nil, or_false] at hx; rcases hx with rfl | rfl | rfl <;> rfl) hb6f
  have hbb := pD o.st.out
  refine aB fun K hK => ?_
  refine bC (fun _ => True) [(0, 3), (1, 3), (2, 3), (3, 1), (4, 3), (5, 3), (6, 3), (7, 1), (8, 3), (9, 3), (10, 3), (11, 3), (12, 1), (13, 3)] [(14, 1)] dB (by kernel_rfl) rfl rfl ?_
  simp only [bW, f6, f7, hb6, hb20, hbb, RR, seval]
  refine hK _ _ ?_; clear hK K
  refine aP ?_; simp only [aV, aM, bE, f6, RR, seval]
  refine aU.pure ?_
  rw [ho1, ho2, ← hene]
  rfl
 obtain ⟨e0, s0, hro⟩ := fO (o := o) (by simpa using hc5)
 have he1 : e = nU o ∧ out = o.st.out ∧ t = o.st.ticks := by rw [hro] at hend ⊢; simp only [oN, Prod.mk.injEq] at hend; exact ⟨hend.1.symm, hend.2.1.symm, hend.2.2.symm⟩
 have hRF := hR1
 have hb6f := hb6
 have hene : nU o = e := he1.1.symm
 refine aL ?_; try simp only [RR]
 obtain ⟨_, ho1, ho2⟩ := he1
 refine dR.seal hRF fun FT HT hft hb20 hk2 => ?_
 have f6 : FT 6 = .ptr 3 b6 0 0 := (hft 6 (by simp only [aG, f6, seval]; rfl)).trans (by simp only [aG, f6, seval])
 have f7 : FT 7 = .ptr 11 b20 0 0 := (hft 7 (by simp only [aG, f7, seval]; rfl)).trans (by simp only [aG, f7, seval])
 have hb6 := hk2 b6 _ _ nb6_b20 (hRF.o.offsz hb6f (by decide)) (fun r hr x hx => by simp only [List.mem_singleton] at hr; subst hr; simp only [List.mem_cons, List.not_mem_nil, or_false] at hx; rcases hx with rfl | rfl | rfl <;> rfl) hb6f
 have hbb := pD o.st.out
 refine aB fun K hK => ?_
 refine bC (fun _ => True) [(0, 3), (1, 3), (2, 3), (3, 1), (4, 3), (5, 3), (6, 3), (7, 1), (8, 3), (9, 3), (10, 3), (11, 3), (12, 1), (13, 3)] [(14, 1)] dB (by kernel_rfl) rfl rfl ?_
 simp only [bW, f6, f7, hb6, hb20, hbb, RR, seval]
 refine hK _ _ ?_; clear hK K
 refine aP ?_; simp only [aV, aM, bE, f6, RR, seval]
 refine aU.pure ?_
 rw [ho1, ho2, ← hene]
 rfl
set_option maxHeartbeats 4000000 in
theorem Cv (c : Co) (hc : c.ok) (inp : dL) (fu : Int) (hfu : cX fu) : dG cO 3 [c.av, .str inp, .int .i64 fu] (.bool true) := by
 have hf := yM rZ c hc 300 (by omega)
 have hfi := fun h => Ce (m := 300) hc h
 have hkd : sO c 300 = true → iA c = true := fun h => by
  simp only [sO, aX] at h; exact h.2.2
 have hav : c.av = .agg [.int .i64 c.words, .isl 5 (c.funs.map CF.row)] := rfl
 generalize sO c 300 = q0 at *
 by_cases hq : q0 = true ∧ inp.length ≤ 60 ∧ fu ≤ 300
 rotate_left
 ·rw [hav] at *
  refine bD 30 [.tmp 6] Tryd.func3 rfl rfl rfl rfl ?_
  refine aB fun K hK => ?_
  refine aA rfl ?_
  simp only [RR, seval]
  refine aK fun b3 hn3 => ?_
  simp only [RR, seval]
  refine hK _ _ ?_; clear hK K
  refine aJ ?_
  refine aB fun K hK => ?_
  refine aA rfl ?_
  simp only [RR, seval]
  refine aO (eL) ?_
  simp only [RR, seval]
  refine hK _ _ ?_; clear hK K
  refine aI false rfl (fun hc => by cases hc) (fun _ => ?_)
  refine aL ?_; try simp only [RR]
  refine aJ ?_
  refine bG fun F1 M1 hfr hH => ?_
  have g1 := hfr 1
  have g2 := hfr 2
  have g3 := hfr 3
  have g6 := hfr 6
  have gb3 := hH b3
  try simp only [RR, seval] at g1 g2 g3 g6 gb3
  have f1 := g1; clear g1
  have f2 := g2; clear g2
  have f3 := g3; clear g3
  have f6 := g6; clear g6
  have hb3 := gb3; clear gb3
  clear hfr hH
  refine dH (fun fr M => aW [1, 2, 3] F1 fr ∧ M b3 = M1 b3 ∧ False) (fun KS3 hKS3 => ?_) ?_
  ·have agS3 := aW.refl [1, 2, 3] F1
   have eS3_b3 : M1 b3 = M1 b3 := rfl
   refine aB fun K hK => ?_
   refine aA rfl ?_
   simp only [f3, hb3, RR, seval]
   all_goals try (refine aO (hf) ?_; simp only [RR, seval])
   all_goals try ((first | refine aS (fun h => ?_) (fun h => ?_) | refine aT (fun h => ?_) (fun h => ?_)) <;> simp only [h, f1, RR, seval])
   all_goals try ((first | refine aS (fun h => ?_) (fun h => ?_) | refine aT (fun h => ?_) (fun h => ?_)) <;> simp only [h, f2, RR, seval])
   all_goals
    refine hK _ _ ?_; clear hK K
    refine aI _ rfl (fun hc3 => ?_) (fun hc3 => ?_)
    ·try (cases hc3; done)
     all_goals
      refine aB fun K hK => ?_
      refine aA rfl ?_
      simp only [RR, seval]
      refine hK _ _ ?_; clear hK K
      refine aP ?_; simp only [aV, aM, bE, RR, seval]
      refine aU.pure ?_
      rfl
    try (cases hc3; done)
    all_goals
     refine aL ?_; try simp only [RR]
     refine hKS3 _ _ ⟨(by repeat (first | exact agS3 | refine aW.upd rfl ?_)), (by first | exact eS3_b3 | (simp only [aG, seval]; first | done | exact eS3_b3)), ?_⟩
     exact hq ⟨by simpa using ‹(!q0) = false›, by have := aF ‹decide ((60 : Int) < (inp.length : Int)) = false›; omega, by have := aF hc3; omega⟩
  rintro F2 M2 ⟨agx, gb3, hx⟩
  have f1 := (agx 1 rfl).trans f1
  have f2 := (agx 2 rfl).trans f2
  have f3 := (agx 3 rfl).trans f3
  have hb3 := gb3.trans hb3
  clear agx
  clear gb3
  simp only [RR, seval]
  exact hx.elim
 obtain ⟨rfl, hin, h3⟩ := hq
 obtain ⟨hco, hsz⟩ := hfi rfl
 have hkd := D9 (hkd rfl)
 obtain ⟨k1, ⟨x1, o1, t1⟩, r1, c1⟩ := xB hco inp (by omega) fu hfu
 have c2 := Ta c hco.words.1 (Rl hco) hkd hco.len.1 (by have := hco.len.2; omega) inp (by omega) fu hfu r1
 have hs := pS x1 x1 o1 o1 t1 t1
 have hrb : By (x1, o1, t1) (x1, o1, t1) = true := by simp [By]
 rw [hrb] at hs
 have z0 : decide ((60 : Int) < (inp.length : Int)) = false := aN (by omega)
 have z1 : decide ((300 : Int) < fu) = false := aN (by omega)
 simp only [vA] at c1 c2 hs
 clear r1 hfi hco hsz hkd
 rw [hav] at *
 refine bD 30 [.tmp 6] Tryd.func3 rfl rfl rfl rfl ?_
 refine aB fun K hK => ?_
 refine aA rfl ?_
 simp only [RR, seval]
 refine aK fun b3 hn3 => ?_
 simp only [RR, seval]
 refine hK _ _ ?_; clear hK K
 refine aJ ?_
 refine aB fun K hK => ?_
 refine aA rfl ?_
 simp only [RR, seval]
 refine aO (eL) ?_
 simp only [RR, seval]
 refine hK _ _ ?_; clear hK K
 refine aI false rfl (fun hc => by cases hc) (fun _ => ?_)
 refine aL ?_; try simp only [RR]
 refine aJ ?_
 refine aB fun K hK => ?_
 refine aA rfl ?_
 simp only [RR, seval]
 refine aO (hf) ?_
 simp only [z0, z1, RR, seval]
 refine hK _ _ ?_; clear hK K
 refine aI false rfl (fun hc => by cases hc) (fun _ => ?_)
 refine aL ?_; try simp only [RR]
 refine aB fun K hK => ?_
 refine dH (fun fr M => fr 6 = .bool true ∧ True) (fun KR5 hKR5 => ?_) ?_
 ·refine eZ (fun x => x ≠ b3) dB (by kernel_rfl) fun hd => ?_
  refine cM [(0, 1), (1, 3), (2, 3), (4, 0), (5, 3), (6, 3), (3, 1), (7, 1), (8, 1), (9, 3)] hd (m := 0) rfl (by kernel_rfl) rfl rfl ?_
  simp only [bW, dJ, RR, seval]
  refine aO (c1) ?_
  simp only [RR, seval]
  refine aO (c2) ?_
  simp only [RR, seval]
  refine aO (hs) ?_
  simp only [RR, seval]
  refine dC (by kernel_rfl) ?_
  simp only [RR, seval]
  exact hKR5 _ _ ⟨rfl, trivial⟩
 rintro F1 M1 ⟨f6, _⟩
 simp only [eM]
 refine hK _ _ ?_; clear hK K
 refine aP ?_; simp only [aV, aM, bE, f6, RR, seval]
 refine aU.pure ?_
 rfl
end Go.Proofs.YtnfbbjhdflhmjaaDoor
