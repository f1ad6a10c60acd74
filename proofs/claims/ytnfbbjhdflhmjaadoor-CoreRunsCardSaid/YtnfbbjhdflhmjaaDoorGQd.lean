/- Chapter 19, the judge's: a call; all at a depth. -/
import Derived.Test.YtnfbbjhdflhmjaaDoorGQc
set_option linter.unusedSimpArgs false
set_option linter.unusedVariables false
set_option maxRecDepth 10000
namespace Go.Al
theorem bO.updR {br bw b : Nat} {vo vo1 : AV} {H H1 : Hp} (h : bO br bw vo vo1 H H1) (hb : H1 b = none) (o : Option eR) : bO br bw vo vo1 H (upd H1 b o) := fun b' o' hb' h1 h2 h4 => by
 obtain ⟨g1, g2⟩ := h b' o' hb' h1 h2 h4
 have : b' ≠ b := fun e => by rw [e, hb] at g1; cases g1
 exact ⟨by rw [cG _ _ this]; exact g1, g2⟩
structure oD (w : Nat) (vo av : AV) (vs : List Int) (H : Hp) : Prop where
 h : dW 1 av (vs.map fE) H
 nw : off av w
 nf : ∀ s b n, av = .osl s b n → off vo b
section
variable {cx : Kx} {fu : Int} {W r w : Nat} {st : RS} {vo av : AV} {en : Int} {bo : Bool} {vl : Int} {vs : List Int} {H : Hp}
theorem oD.keep {vo' : AV} {H' : Hp} (h : oD w vo av vs H) (hr : dR cx fu W r w st vo en bo vl H) (hk : bO r w vo vo' H H') : oD w vo' av vs H' := by
 rcases h.h with ⟨rfl, e⟩ | ⟨b, rfl, hb⟩
 ·exact ⟨.inl ⟨rfl, e⟩, (fun _ _ e => by cases e), (fun _ _ _ e => by cases e)⟩
 obtain ⟨g1, g2⟩ := hk b _ hb (hr.nbr hb (by decide)) (fun e => h.nw _ _ (by rw [e])) (h.nf _ _ _ rfl)
 exact ⟨.inr ⟨b, rfl, g1⟩, h.nw, fun s b' n e => by cases e; exact g2⟩
theorem dR.grow {H2 : Hp} (h : dR cx fu W r w st vo en bo vl H) (ho : oD w vo av vs H) (hk : ∀ b o, H b = some o → av ≠ .osl 1 b (vs.map fE).length → H2 b = some o) : dR cx fu W r w st vo en bo vl H2 := by
 have o : dW 1 vo (st.out.map nD) H2 := by
  rcases h.o with g | ⟨b, e, hb⟩
  ·exact .inl g
  exact .inr ⟨b, e, hk _ _ hb (fun e2 => ho.nf _ _ _ e2 _ _ e)⟩
 exact { h with r := hk _ _ h.r (ho.h.offsz h.r (by decide) _ _), v := hk _ _ h.v (ho.nw _ _), o := o }
theorem oD.grow {v' : AV} {x : Int} {H2 : Hp} (h : oD w vo av vs H) (hR : dR cx fu W r w st vo en bo vl H) (ho' : dW 1 v' (vs.map fE ++ [[.int .u32 x]]) H2) (hg : ∀ b, off av b → H b ≠ none → off v' b) : oD w vo v' (vs ++ [x]) H2 := by
 refine ⟨by rw [List.map_append]; exact ho', hg w h.nw (by rw [hR.v]; exact cB _), fun s b n e s2 n2 e2 => ?_⟩
 have hb : H b ≠ none := by
  rcases hR.o with ⟨g, _⟩ | ⟨b', g, hb⟩
  ·rw [g] at e2; cases e2
  rw [g] at e2; cases e2; rw [hb]; exact cB _
 exact hg b (fun s3 n3 e3 => h.nf _ _ _ e3 _ _ e2) hb _ _ e
theorem oD.new (h : oD w vo av vs H) {b : Nat} (hb : H b = none) (o : Option eR) : oD w vo av vs (upd H b o) := ⟨h.h.upd hb o, h.nw, h.nf⟩
theorem oD.same (h : oD w vo av vs H) {H' : Hp} (he : ∀ b, H' b = H b) : oD w vo av vs H' := by
 have : H' = H := funext he
 rw [this]; exact h
theorem oD.words (h : oD w vo av vs H) (o : Option eR) : oD w vo av vs (upd H w o) := ⟨h.h.off h.nw o, h.nw, h.nf⟩
end
theorem El {L vs : List Int} {fi j : Nat} {x : Int} (h : fi + vs.length ≤ L.length) (hx : vs[j]? = some x) : (L.take fi ++ vs.take j ++ L.drop (fi + j)).set (fi + j) x = L.take fi ++ vs.take (j + 1) ++ L.drop (fi + (j + 1)) := by
 obtain ⟨hj, rfl⟩ := bM.1 hx
 have e1 : (L.take fi ++ vs.take j).length = fi + j := by simp only [bU, cC]; omega
 have h2 := List.set_append_right (s := L.take fi ++ vs.take j) (t := L.drop (fi + j)) (fi + j) vs[j] (by omega)
 rw [h2, e1, Nat.sub_self, bK (show fi + j < L.length by omega), List.set_cons_zero, bT hj]
 simp only [List.append_assoc, List.singleton_append, Nat.add_assoc]
theorem La {L vs : List Int} {fi j : Nat} (h : fi + vs.length ≤ L.length) (hj : j ≤ vs.length) : (L.take fi ++ vs.take j ++ L.drop (fi + j)).length = L.length := by
 simp only [bU, cC, List.length_drop]; omega
theorem Qx {L vs : List Int} {fi sl : Nat} (h : fi + sl ≤ L.length) (hv : vs.length ≤ sl) : (L.take fi ++ List.replicate sl 0 ++ L.drop (fi + sl)).take fi ++ vs ++ (L.take fi ++ List.replicate sl 0 ++ L.drop (fi + sl)).drop (fi + vs.length) = L.take fi ++ (vs ++ List.replicate (sl - vs.length) 0) ++ L.drop (fi + sl) := by
 have e1 : (L.take fi).length = fi := by rw [cC]; omega
 rw [List.append_assoc (L.take fi), List.take_left' e1, List.drop_append, e1, List.drop_eq_nil_of_le (by rw [e1]; omega), List.nil_append, Nat.add_sub_cancel_left, List.drop_append_of_le_length (by rw [cW]; exact hv), List.drop_replicate]
 simp [List.append_assoc]
end Go.Al
namespace Go.Proofs.YtnfbbjhdflhmjaaDoor
open Go.Al
section
variable {cx : Kx} {fu : Int} {W r w : Nat} {n : Nat}
set_option maxHeartbeats 4000000 in
theorem Ih (ih : Tb cx fu W r w n) (hx : Ot cx fu W) (i : Nat) (a : Int) (f : CF) (l : List CE) (st : RS) (vo : AV) (vl : Int) (H : Hp) (o : Rz Int) (hl : lS l) (hwl : lH (W : Int) cx.funs i l) (h0 : 0 ≤ a) (hf : cx.funs[a.toNat]? = some f) (hp : f.params = l.length) (hvl : cJ vl) (hR : dR cx fu W r w st vo 0 false vl H) (h : oL cx (n + 1) a l st = some o) :
  jN cO 59 [.ptr 11 r 0 0, .int .i64 a, .isl 6 (l.map CE.row)] H (En cx fu W r w vo H o) := by
 simp only [oL, if_neg (show ¬ a < 0 by omega), hf] at h
 obtain ⟨p0, p1, p2, p3, p4⟩ := hx.k.funs.head _ _ hf
 have hfw := hx.k.funs.body _ _ hf
 have hfb := hx.k.body f (bN hf)
 have hfd := hx.d f (bN hf)
 have hwW := hx.k.wl
 have hl6 : l.length ≤ 6 := by omega
 have hfit := hl.fit
 simp only [cY] at hfit
 have hr := hR.r
 obtain ⟨al, rfl⟩ := Int.eq_ofNat_of_zero_le h0
 rw [Int.toNat_natCast] at hf hfw
 have zal : al < cx.funs.length := (bM.1 hf).1
 have zal' : (al : Int) < (cx.funs.length : Int) := by omega
 have hfrow : (cx.funs.map CF.row)[al]? = some f.row := by rw [cD, hf]; rfl
 have hA : ∃ ra, jT cx n l st = some ra ∧ bindR (some ra) (fun vs s => qN cx n f vs s) = some o := by
  cases hA : jT cx n l st with
  | none => rw [hA] at h; cases h
  | some ra => rw [hA] at h; exact ⟨ra, rfl, h⟩
 clear h
 obtain ⟨ra, hA, h⟩ := hA
 obtain ⟨HX, hHX⟩ : ∃ X, X = H := ⟨_, rfl⟩
 obtain ⟨fi, hfi⟩ : ∃ fi : Nat, f.first = fi := ⟨f.first.toNat, by omega⟩
 obtain ⟨sl, hsl⟩ : ∃ sl : Nat, f.slots = sl := ⟨f.slots.toNat, by omega⟩
 have hrow : f.row = [.int .i64 (l.length : Int), .int .i64 (sl : Int), .int .i64 (fi : Int), .bool f.word, .isl 6 (f.body.map CS.row)] := by unfold CF.row; rw [hp, hfi, hsl]
 rw [hrow] at hfrow
 rw [hp, hsl] at p2
 rw [hfi, hsl] at p4
 refine bD 93 [.tmp 6] Tryd.func59 rfl rfl rfl rfl ?_
 refine aB fun K hK => ?_
 refine aA rfl ?_
 simp only [RR, seval]
 refine hK _ _ ?_; clear hK K
 refine aB fun K hK => ?_
 refine aA rfl ?_
 simp only [RR, seval]
 refine hK _ _ ?_; clear hK K
 refine aJ ?_
 refine aB fun K hK => ?_
 refine aA rfl ?_
 simp only [RR, seval]
 refine hK _ _ ?_; clear hK K
 refine bG fun F1 M1 hfr hH => ?_
 have g0 := hfr 0
 have g1 := hfr 1
 have g2 := hfr 2
 have g6 := hfr 6
 have g7 := hfr 7
 have g8 := hfr 8
 have gr := hH r
 try simp only [hr, RR, seval] at g0 g1 g2 g6 g7 g8 gr
 have hM := funext hH
 have f0 := g0; clear g0
 have f1 := g1; clear g1
 have f2 := g2; clear g2
 have f6 := g6; clear g6
 have f7 := g7; clear g7
 have f8 := g8; clear g8
 have hr := gr; clear gr
 clear hfr hH
 refine aQ ?_
 refine bY [0, 1, 2] (l.length) (fun k fr M => fr 8 = .int .i64 (k : Nat) ∧ ∃ stk vok vlk av vs m rk, fr 7 = av ∧ m ≤ n ∧ vs.length = k ∧ (∀ x ∈ vs, cJ x) ∧ cJ vlk ∧ jT cx m (l.drop k) stk = some rk ∧ bindR (some rk) (fun vs' s => qN cx n f (vs ++ vs') s) = some o ∧ dR cx fu W r w stk vok 0 false vlk M ∧ oD w vok av vs M ∧ (∀ b o, HX b = some o → b ≠ r → b ≠ w → Al.off vo b → M b = some o ∧ Al.off vok b ∧ Al.off av b)) ⟨f8, st, vo, vl, .nsl, [], n, ra, f7, aY _, rfl, (fun x hx => by simp at hx), hvl, hA, (by simpa using h), (by rw [hM]; exact hR), ⟨.inl ⟨rfl, rfl⟩, (fun _ _ e => by cases e), (fun _ _ _ e => by cases e)⟩, (fun b o h1 _ _ h2 => ⟨by rw [hM, ← hHX]; exact h1, h2, fun _ _ e => by cases e⟩)⟩ ?_
 rintro k F2 M2 hk0 ⟨fx, stk, vok, vlk, av, vs, m, rk, f7, hmn, hvs, huv, hvlk, hAk, hk, hRk, hOk, hkk⟩ agx K0 hK0
 have f0 := (agx 0 rfl).trans f0
 have f1 := (agx 1 rfl).trans f1
 have f2 := (agx 2 rfl).trans f2
 have f8 := fx; clear fx
 have ag0 := aW.refl [0, 1, 2] F2
 clear agx
 clear h hA
 have hr := hRk.r
 refine aJ ?_
 refine aB fun K hK => ?_
 refine aA rfl ?_
 simp only [f2, f8, aD, RR, seval]
 refine hK _ _ ?_; clear hK K
 refine aI _ rfl (fun hc => ?_) (fun hc => ?_)
 ·have hlt0 : k < l.length := by have := aC hc; omega
  clear hc
  have hg0 := aH hlt0
  have hdk : l.drop k = l[k] :: l.drop (k + 1) := bK hlt0
  generalize l[k] = b at hg0 hdk
  have hg := jF hg0
  rw [hdk] at hAk
  obtain ⟨m', rfl⟩ : ∃ m', m = m' + 1 := by
   cases m with
   | zero => simp [jT] at hAk
   | succ m' => exact ⟨m', rfl⟩
  simp only [jT] at hAk
  obtain ⟨r1, h1⟩ : ∃ r1, fJ cx m' b stk = some r1 := by
   cases h1 : fJ cx m' b stk with
   | none => rw [h1] at hAk; cases hAk
   | some r1 => exact ⟨r1, rfl⟩
  rw [h1] at hAk
  have hV := ih.V i b stk vok vlk _ r1 (hl.all _ (bN hg0)) (fX hwl hg0).1 hvlk hRk (sF (by omega) h1)
  rw [b.row_eq] at hV
  refine aL ?_; try simp only [RR]
  refine aJ ?_
  refine aQ ?_
  refine aB fun K hK => ?_
  refine aA rfl ?_
  simp only [f0, f2, f8, f7, hg, RR, seval]
  refine gI hV (fun _ => trivial) fun x vo1 vl1 H1 ux hwv1 hne1 hvl1 hR1 hk1 => ?_
  have hO1 := hOk.keep hRk hk1
  simp only [RR, seval]
  refine eB ?_
  simp only [RR, seval]
  refine kK hO1.h (by simp only [aD, bX, List.length_nil]; omega) (fun _ _ => trivial) fun v' H2 ho' hk' hg' => ?_
  simp only [RR, seval]
  have hR2 := hR1.grow hO1 hk'
  have hO2 := hO1.grow hR1 ho' hg'
  have hr := hR2.r
  have hkk2 : ∀ b o, HX b = some o → b ≠ r → b ≠ w → Al.off vo b → H2 b = some o ∧ Al.off vo1 b ∧ Al.off v' b := fun b o hb h1 h2 h3 => by
   obtain ⟨q1, q2, q3⟩ := hkk b o hb h1 h2 h3
   obtain ⟨q4, q5⟩ := hk1 b o q1 h1 h2 q2
   exact ⟨hk' b o q4 (q3 _ _), q5, hg' b q3 (by rw [q4]; exact cB _)⟩
  refine hK _ _ ?_; clear hK K
  refine aB fun K hK => ?_
  refine aA rfl ?_
  simp only [f0, hr, RR, seval]
  refine hK _ _ ?_; clear hK K
  refine aI _ rfl (fun hc6 => ?_) (fun hc6 => ?_)
  ·obtain ⟨e1, s1, rfl⟩ := fO (o := r1) (by simpa using hc6)
   obtain rfl := Option.some.inj (show some (Rz.fin e1 s1) = some rk from hAk)
   obtain rfl := Option.some.inj (show some (Rz.fin e1 s1) = some o from hk)
   have hkf : bO r w vo vo1 H H2 := fun b o hb h1 h2 h3 => by
    rw [← hHX] at hb
    obtain ⟨q1, q2, _⟩ := hkk2 b o hb h1 h2 h3
    exact ⟨q1, q2⟩
   refine aB fun K hK => ?_
   refine aA rfl ?_
   simp only [RR, seval]
   refine hK _ _ ?_; clear hK K
   refine aP ?_; simp only [aV, aM, bE, RR, seval]
   exact aU.run ⟨0, vo1, vl1, rfl, by simp [cJ], (fun _ _ e => by cases e), hne1, hvl1, hR2, hkf⟩
  obtain ⟨x1, s1, rfl⟩ := fF (o := r1) hne1 (by simpa using hc6)
  obtain rfl := hwv1 _ _ rfl
  simp only [bindR] at hAk
  obtain ⟨r', h2⟩ : ∃ r', jT cx m' (l.drop (k + 1)) s1 = some r' := by
   cases h2 : jT cx m' (l.drop (k + 1)) s1 with
   | none => rw [h2] at hAk; cases hAk
   | some r' => exact ⟨r', rfl⟩
  rw [h2] at hAk
  have hk' : bindR (some r') (fun vs' s => qN cx n f ((vs ++ [x]) ++ vs') s) = some o := by
   cases r' with
   | fin e s =>
     obtain rfl := Option.some.inj (show some (Rz.fin e s) = some rk from hAk)
     exact hk
   | val vs' s =>
     obtain rfl := Option.some.inj (show some (Rz.val (x :: vs') s) = some rk from hAk)
     simpa [bindR] using hk
  refine aL ?_; try simp only [RR]
  refine aA rfl ?_
  simp only [f8, RR, seval]
  try rw [aR _ (by omega)]
  refine hK0 _ _ hlt0 ⟨by first | rfl | (simp only [aG, seval]; rfl), s1, vo1, vl1, v', vs ++ [x], m', r', rfl, (by omega), (by simp [hvs]), (fun y hy => by rcases List.mem_append.1 hy with hy | hy; exact huv y hy; rw [List.mem_singleton.1 hy]; exact ux), hvl1, h2, hk', hR2, hO2, hkk2⟩ (by repeat (first | exact ag0 | refine aW.upd rfl ?_))
 have hkn0 : k = l.length := by have := aF hc; omega
 clear hc
 rw [hkn0, List.drop_length] at hAk
 rw [hkn0] at hvs
 have hk2 : qN cx n f vs stk = some o := by
  cases m with
  | zero => simp [jT] at hAk
  | succ m' =>
    simp only [jT, Option.some.injEq] at hAk
    subst hAk
    simpa [bindR] using hk
 clear hk hAk
 unfold qN at hk2
 have hT := Ah hx hRk
 generalize hTT : eC cx.cx stk = tt at hk2 hT
 have hkp : bO r w vo vok HX M2 := fun b o hb h1 h2 h3 => by
  obtain ⟨q1, q2, _⟩ := hkk b o hb h1 h2 h3
  exact ⟨q1, q2⟩
 refine bH ?_; simp only [RR, seval]
 refine aJ ?_
 refine aB fun K hK => ?_
 refine aA rfl ?_
 simp only [f0, RR, seval]
 refine Me hT (fun _ => trivial) fun H1 hne1 hR1 hk1 => ?_
 have hr := hR1.r
 have hO1 := hOk.keep hRk hk1
 have hkk1 := hkp.trans hk1
 simp only [RR, seval]
 refine hK _ _ ?_; clear hK K
 refine aI _ rfl (fun hc8 => ?_) (fun hc8 => ?_)
 ·obtain ⟨e1, s1, rfl⟩ := fO (o := tt) (by simpa using hc8)
  obtain rfl := Option.some.inj (show some (Rz.fin e1 s1) = some o from hk2)
  rw [hHX] at hkk1
  refine aB fun K hK => ?_
  refine aA rfl ?_
  simp only [RR, seval]
  refine hK _ _ ?_; clear hK K
  refine aP ?_; simp only [aV, aM, bE, RR, seval]
  exact aU.run ⟨0, vok, vlk, rfl, by simp [cJ], (fun _ _ e => by cases e), (fun _ _ e => by cases e; exact hne1 _ _ rfl), hvlk, hR1, hkk1⟩
 obtain ⟨_, s1, rfl⟩ := fF (o := tt) hne1 (by simpa using hc8)
 simp only [bindR] at hk2
 have hR1 : dR cx fu W r w s1 vok 0 false vlk H1 := hR1
 have hr := hR1.r
 obtain ⟨s2, he2, hk3⟩ : ∃ s2, jI f vs s1 = some s2 ∧ bindR (gX cx n f.body s2) (fun r st => some (.val (r.getD 0) st)) = some o := by
  cases he2 : jI f vs s1 with
  | none => rw [he2] at hk2; cases hk2
  | some s2 => rw [he2] at hk2; exact ⟨s2, rfl, hk2⟩
 have hs2 : s2 = { s1 with vars := s1.vars.take fi ++ (vs ++ List.replicate (sl - vs.length) 0) ++ s1.vars.drop (fi + sl) } := by
  unfold jI at he2
  rw [hfi, hsl] at he2
  split at he2
  ·cases he2
   rw [show ((fi : Int) + (sl : Int)).toNat = fi + sl by omega]; rfl
  cases he2
 have hlw1 := hR1.lw
 have zc : fi + sl ≤ s1.vars.length := by omega
 have nwr := hR1.bwr
 have nrw : r ≠ w := Ne.symm nwr
 clear hk2
 refine aL ?_; try simp only [RR]
 refine aB fun K hK => ?_
 refine aA rfl ?_
 simp only [f0, f1, hr, hfrow, RR, seval]
 refine aK fun b9 hn9 => ?_
 have nb9_r : b9 ≠ r := fun e => by rw [e] at hn9; simp only [hr, seval, reduceCtorEq] at hn9
 have nr_b9 : r ≠ b9 := fun e => nb9_r e.symm
 simp only [RR, seval]
 refine hK _ _ ?_; clear hK K
 refine aJ ?_
 refine aB fun K hK => ?_
 refine aA rfl ?_
 simp only [RR, seval]
 refine hK _ _ ?_; clear hK K
 refine bG fun F3 M3 hfr hH => ?_
 have g0 := hfr 0
 have g6 := hfr 6
 have g7 := hfr 7
 have g9 := hfr 9
 have g10 := hfr 10
 have gr := hH r
 have gb9 := hH b9
 try simp only [f0, f7, hr, nr_b9, RR, seval] at g0 g6 g7 g9 g10 gr gb9
 have hM := (funext hH).trans (kH _ _ _ _)
 have hRM := (hR1.new hn9 _).same (fun b => congrFun hM b)
 have hOM := (hO1.new hn9 _).same (fun b => congrFun hM b)
 have hkM : bO r w vo vok HX M3 := by rw [hM]; exact hkk1.updR hn9 _
 have nb9_w := hRM.nbw gb9 (by decide)
 have nw_b9 : w ≠ b9 := Ne.symm nb9_w
 have f0 := g0; clear g0
 have f6 := g6; clear g6
 have f7 := g7; clear g7
 have f9 := g9; clear g9
 have f10 := g10; clear g10
 have hr := gr; clear gr
 have hb9 := gb9; clear gb9
 clear hfr hH
 refine aQ ?_
 refine bY [0, 6, 7, 9] (sl) (fun j fr M => fr 10 = .int .i64 (j : Nat) ∧ M r = M3 r ∧ M b9 = M3 b9 ∧ dR cx fu W r w { s1 with vars := s1.vars.take fi ++ (List.replicate sl 0).take j ++ s1.vars.drop (fi + j) } vok 0 false vlk M ∧ oD w vok av vs M ∧ bO r w vo vok HX M) ⟨f10, rfl, rfl, (by simpa using hRM), hOM, hkM⟩ ?_
 rintro j F4 M4 hk2 ⟨fx, gr, gb9, hRj, hOj, hkj⟩ agx K2 hK2
 have f0 := (agx 0 rfl).trans f0
 have f6 := (agx 6 rfl).trans f6
 have f7 := (agx 7 rfl).trans f7
 have f9 := (agx 9 rfl).trans f9
 have f10 := fx; clear fx
 have hr := gr.trans hr
 have hb9 := gb9.trans hb9
 have ag2 := aW.refl [0, 6, 7, 9] F4
 have e2_r := gr; clear gr
 have e2_b9 := gb9; clear gb9
 clear agx
 have hw := hRj.v
 refine aJ ?_
 refine aB fun K hK => ?_
 refine aA rfl ?_
 simp only [f9, f10, hb9, RR, seval]
 refine hK _ _ ?_; clear hK K
 refine aI _ rfl (fun hc => ?_) (fun hc => ?_)
 ·have hlt2 : j < sl := by have := aC hc; omega
  clear hc
  have zj : fi + j < s1.vars.length := by omega
  have hput := El (L := s1.vars) (vs := List.replicate sl 0) (fi := fi) (j := j) (x := 0) (by rw [cW]; exact zc) (by rw [List.getElem?_replicate, if_pos hlt2])
  have hln := La (L := s1.vars) (vs := List.replicate sl 0) (fi := fi) (j := j) (by rw [cW]; exact zc) (by rw [cW]; omega)
  have hs := hRj.setV (fi + j) 0 mF
  have ho := hOj.words (some (.rows 1 (((s1.vars.take fi ++ (List.replicate sl 0).take j ++ s1.vars.drop (fi + j)).map fE).set (fi + j) [.int .u32 0])))
  have hkj2 := hkj.trans (bO.vars (br := r) (bw := w) (vo := vok) (some (.rows 1 (((s1.vars.take fi ++ (List.replicate sl 0).take j ++ s1.vars.drop (fi + j)).map fE).set (fi + j) [.int .u32 0]))))
  simp only at hs
  rw [hput] at hs
  obtain ⟨y, hgy⟩ : ∃ y, ((s1.vars.take fi ++ (List.replicate sl 0).take j ++ s1.vars.drop (fi + j)).map fE)[fi + j]? = some [.int .u32 y] := ⟨_, fQ (aH (by rw [hln]; exact zj))⟩
  have zi : ((fi + j : Nat) : Int) < (s1.vars.length : Int) := by omega
  have e1 : IntKind.wrap .i64 ((fi : Int) + (j : Int)) = ((fi + j : Nat) : Int) := by rw [aR _ (by omega)]; omega
  generalize ((s1.vars.take fi ++ (List.replicate sl 0).take j ++ s1.vars.drop (fi + j)).map fE) = rws at *
  refine aL ?_; try simp only [RR]
  refine aJ ?_
  refine aQ ?_
  refine bC (fun _ => True) [(0, 3), (1, 3), (2, 3), (3, 1), (4, 3), (5, 1), (6, 3), (7, 3), (8, 3)] [(9, 1)] dB (by kernel_rfl) rfl rfl ?_
  simp only [bW, f0, f9, f10, hr, hb9, hw, zi, e1, hgy, RR, seval]
  refine aA rfl ?_
  simp only [f10, RR, seval]
  try rw [aR _ (by omega)]
  refine hK2 _ _ hlt2 ⟨by first | rfl | (simp only [aG, seval]; rfl), (by first | exact e2_r | (simp only [nrw, aG, seval]; first | done | exact e2_r)), (by first | exact e2_b9 | (simp only [nb9_w, aG, seval]; first | done | exact e2_b9)), hs, ho, hkj2⟩ (by repeat (first | exact ag2 | refine aW.upd rfl ?_))
 have hkn2 : j = sl := by have := aF hc; omega
 clear hc
 rw [hkn2, show (List.replicate sl (0 : Int)).take sl = List.replicate sl 0 from List.take_of_length_le (by rw [cW]; exact aY _)] at hRj
 obtain ⟨bs, hbs⟩ : ∃ bs, bs = s1.vars.take fi ++ List.replicate sl 0 ++ s1.vars.drop (fi + sl) := ⟨_, rfl⟩
 rw [← hbs] at hRj
 have hbl : bs.length = s1.vars.length := by rw [hbs]; simp only [bU, cC, List.length_drop, cW]; omega
 have zv : vs.length ≤ sl := by omega
 refine bH ?_; simp only [RR, seval]
 refine aJ ?_
 refine aB fun K hK => ?_
 refine aA rfl ?_
 simp only [RR, seval]
 refine hK _ _ ?_; clear hK K
 refine bG fun F5 M5 hfr hH => ?_
 have g0 := hfr 0
 have g6 := hfr 6
 have g7 := hfr 7
 have g9 := hfr 9
 have g11 := hfr 11
 have gr := hH r
 have gb9 := hH b9
 have gw := hH w
 try simp only [f0, f6, f7, f9, hr, hb9, hw, RR, seval] at g0 g6 g7 g9 g11 gr gb9 gw
 have hM := funext hH
 have hRM := hRj.same hH
 have hOM := hOj.same hH
 have hkM : bO r w vo vok HX M5 := by rw [hM]; exact hkj
 have f0 := g0; clear g0
 have f6 := g6; clear g6
 have f7 := g7; clear g7
 have f9 := g9; clear g9
 have f11 := g11; clear g11
 have hr := gr; clear gr
 have hb9 := gb9; clear gb9
 have hw := gw; clear gw
 clear hfr hH
 refine aQ ?_
 refine bY [0, 6, 7, 9] (vs.length) (fun q fr M => fr 11 = .int .i64 (q : Nat) ∧ M r = M5 r ∧ M b9 = M5 b9 ∧ dR cx fu W r w { s1 with vars := bs.take fi ++ vs.take q ++ bs.drop (fi + q) } vok 0 false vlk M ∧ oD w vok av vs M ∧ bO r w vo vok HX M) ⟨f11, rfl, rfl, (by simpa using hRM), hOM, hkM⟩ ?_
 rintro q F6 M6 hk4 ⟨fx, gr, gb9, hRq, hOq, hkq⟩ agx K4 hK4
 have f0 := (agx 0 rfl).trans f0
 have f6 := (agx 6 rfl).trans f6
 have f7 := (agx 7 rfl).trans f7
 have f9 := (agx 9 rfl).trans f9
 have f11 := fx; clear fx
 have hr := gr.trans hr
 have hb9 := gb9.trans hb9
 have ag4 := aW.refl [0, 6, 7, 9] F6
 have e4_r := gr; clear gr
 have e4_b9 := gb9; clear gb9
 clear agx
 have hw := hRq.v
 have hcs : ∃ ba, (av = .nsl ∧ vs = []) ∨ (av = .osl 1 ba vs.length ∧ M6 ba = some (.rows 1 (vs.map fE)) ∧ ba ≠ w ∧ w ≠ ba ∧ r ≠ ba) := by
  rcases hOq.h with ⟨e1, e2⟩ | ⟨ba, e1, hba⟩
  ·exact ⟨0, .inl ⟨e1, by simpa using e2⟩⟩
  rw [aD] at e1
  have n1 : ba ≠ w := fun e => hOq.nw _ _ (by rw [e1, e])
  exact ⟨ba, .inr ⟨e1, hba, n1, Ne.symm n1, Ne.symm (hRq.nbr hba (by decide))⟩⟩
 obtain ⟨ba, hcs⟩ := hcs
 rcases hcs with ⟨rfl, e0⟩ | ⟨rfl, hba, nba_w, nw_ba, nr_ba⟩
 have hba := True.intro
 have nba_w := True.intro
 have nw_ba := True.intro
 have nr_ba := True.intro
 all_goals
  refine aJ ?_
  refine aB fun K hK => ?_
  refine aA rfl ?_
  simp only [f7, f11, RR, seval]
  refine hK _ _ ?_; clear hK K
  refine aI _ rfl (fun hc => ?_) (fun hc => ?_)
  ·try (cases hc; done)
   try (have := aC hc; omega; done)
   all_goals
    have hw4 := hc; clear hc
    have hlt4 : q < vs.length := by have := aC hw4; omega
    have hgx := aH hlt4
    have ux := huv _ (bA hlt4)
    generalize vs[q] = x at hgx ux
    have hga := fQ hgx
    have zj : fi + q < s1.vars.length := by omega
    have hput := El (L := bs) (vs := vs) (fi := fi) (j := q) (x := x) (by omega) hgx
    have hln := La (L := bs) (vs := vs) (fi := fi) (j := q) (by omega) (by omega)
    have hs := hRq.setV (fi + q) x ux
    have ho := hOq.words (some (.rows 1 (((bs.take fi ++ vs.take q ++ bs.drop (fi + q)).map fE).set (fi + q) [.int .u32 x])))
    have hkq2 := hkq.trans (bO.vars (br := r) (bw := w) (vo := vok) (some (.rows 1 (((bs.take fi ++ vs.take q ++ bs.drop (fi + q)).map fE).set (fi + q) [.int .u32 x]))))
    simp only at hs
    rw [hput] at hs
    obtain ⟨y, hgy⟩ : ∃ y, ((bs.take fi ++ vs.take q ++ bs.drop (fi + q)).map fE)[fi + q]? = some [.int .u32 y] := ⟨_, fQ (aH (by rw [hln, hbl]; exact zj))⟩
    have zi : ((fi + q : Nat) : Int) < (s1.vars.length : Int) := by omega
    have zq : (q : Int) < (vs.length : Int) := by omega
    have e1 : IntKind.wrap .i64 ((fi : Int) + (q : Int)) = ((fi + q : Nat) : Int) := by rw [aR _ (by omega)]; omega
    generalize ((bs.take fi ++ vs.take q ++ bs.drop (fi + q)).map fE) = rws at *
    refine aL ?_; try simp only [RR]
    refine aJ ?_
    refine aQ ?_
    refine bC (fun _ => True) [(0, 3), (1, 3), (2, 3), (3, 1), (4, 3), (5, 1), (6, 3), (7, 3), (8, 3), (9, 3), (10, 3), (11, 1), (12, 3)] [(13, 1)] dB (by kernel_rfl) rfl rfl ?_
    simp only [bW, f0, f7, f9, f11, hr, hb9, hw, hba, zi, zq, e1, hgy, hga, RR, seval]
    refine aA rfl ?_
    simp only [f11, RR, seval]
    try rw [aR _ (by omega)]
    refine hK4 _ _ hlt4 ⟨by first | rfl | (simp only [aG, seval]; rfl), (by first | exact e4_r | (simp only [nrw, aG, seval]; first | done | exact e4_r)), (by first | exact e4_b9 | (simp only [nb9_w, aG, seval]; first | done | exact e4_b9)), hs, ho, hkq2⟩ (by repeat (first | exact ag4 | refine aW.upd rfl ?_))
  try (cases hc; done)
  all_goals
   have hw4 := hc; clear hc
   have hqn : q = vs.length := by have := aF hw4; first | omega | (subst e0; simp at *; omega)
   have hfin := Qx (L := s1.vars) (vs := vs) (fi := fi) (sl := sl) zc zv
   rw [← hbs] at hfin
   rw [hqn, List.take_length, hfin, ← hs2] at hRq
   obtain ⟨r3, h3⟩ : ∃ r3, gX cx n f.body s2 = some r3 := by
    cases h3 : gX cx n f.body s2 with
    | none => rw [h3] at hk3; cases hk3
    | some r3 => exact ⟨r3, rfl⟩
   rw [h3] at hk3
   have hL := ih.L al f.body s2 vok vlk _ r3 hfb hfw hfd hvlk hRq h3
   refine bH ?_; simp only [RR, seval]
   refine aB fun K hK => ?_
   refine aA rfl ?_
   simp only [f0, f9, hb9, RR, seval]
   refine tO hL (fun _ => trivial) fun vo3 vl3 H3 hne3 hvl3 hv3 hR3 hk4 => ?_
   have hr := hR3.r
   have hkk3 := hkq.trans hk4
   rw [hHX] at hkk3
   simp only [RR, seval]
   refine hK _ _ ?_; clear hK K
   refine aJ ?_
   refine aB fun K hK => ?_
   refine aA rfl ?_
   simp only [f0, hr, RR, seval]
   refine hK _ _ ?_; clear hK K
   refine aI _ rfl (fun hc20 => ?_) (fun hc20 => ?_)
   ·have hend : (∀ v s, o = .val v s → (0 : Int) = v) ∧ (∀ e s, o = .fin e s → e ≠ 0) ∧ o.st = r3.st ∧ nU o = nU r3 ∧ iO r3 = false := by
     cases r3 with
     | fin e s =>
       obtain rfl := Option.some.inj (show some (Rz.fin e s) = some o from hk3)
       exact ⟨(fun _ _ e => by cases e), (fun _ _ e => by cases e; exact hne3 _ _ rfl), rfl, rfl, rfl⟩
     | val q s =>
       obtain rfl := Option.some.inj (show some (Rz.val (q.getD 0) s) = some o from hk3)
       cases q with
       | none => exact ⟨(fun _ _ e => by cases e; rfl), (fun _ _ e => by cases e), rfl, rfl, rfl⟩
       | some v => simp [iO] at hc20
    obtain ⟨g1, g2, g3, g4, g5⟩ := hend
    refine aB fun K hK => ?_
    refine aA rfl ?_
    simp only [RR, seval]
    refine hK _ _ ?_; clear hK K
    refine aP ?_; simp only [aV, aM, bE, RR, seval]
    exact aU.run ⟨0, vo3, vl3, rfl, by simp [cJ], g1, g2, hvl3, (by rw [g3, g4]; rw [g5] at hR3; exact hR3), hkk3⟩
   obtain ⟨v, s, rfl⟩ : ∃ v s, r3 = .val (some v) s := by
    cases r3 with
    | fin e s => simp [iO] at hc20
    | val q s =>
      cases q with
      | none => simp [iO] at hc20
      | some v => exact ⟨v, s, rfl⟩
   obtain rfl := hv3 _ _ rfl
   obtain rfl := Option.some.inj (show some (Rz.val vl3 s) = some o from hk3)
   have hR3 : dR cx fu W r w s vo3 0 true vl3 H3 := hR3
   have hr := hR3.r
   refine aL ?_; try simp only [RR]
   refine aB fun K hK => ?_
   refine aA rfl ?_
   simp only [f0, hr, RR, seval]
   refine hK _ _ ?_; clear hK K
   refine aB fun K hK => ?_
   refine aA rfl ?_
   simp only [f0, RR, seval]
   refine hK _ _ ?_; clear hK K
   refine aP ?_; simp only [aV, aM, bE, RR, seval]
   exact aU.run ⟨vl3, vo3, vl3, rfl, hvl3, (fun _ _ e => by cases e; rfl), (fun _ _ e => by cases e), hvl3, hR3.turn 0 false vl3 rfl rfl hR3.rd hR3.tk, hkk3.trans (bO.run _)⟩
theorem J4 (hx : Ot cx fu W) (r w : Nat) (n : Nat) : Tb cx fu W r w n := by
 induction n with
 | zero =>
   constructor
   ·intro i e st vo vl H o _ _ _ _ h; simp [fJ] at h
   ·intro i a f l st vo vl H o _ _ _ _ _ _ _ h; simp [oL] at h
   ·intro i e st vo vl H o _ _ _ _ _ h; simp [nR] at h
   intro i l st vo vl H o _ _ _ _ _ h; simp [gX] at h
 | succ n ih =>
   exact ⟨fun i e st vo vl H o h1 h2 h3 h4 h5 => Ig ih hx i e st vo vl H o h1 h2 h3 h4 h5, fun i a f l st vo vl H o h1 h2 h3 h4 h5 h6 h7 h8 => Ih ih hx i a f l st vo vl H o h1 h2 h3 h4 h5 h6 h7 h8,
    fun i e st vo vl H o h1 h2 h3 h4 h5 h6 => If ih hx i e st vo vl H o h1 h2 h3 h4 h5 h6, fun i l st vo vl H o h1 h2 h3 h4 h5 h6 => Ek ih i l st vo vl H o h1 h2 h3 h4 h5 h6⟩
end
end Go.Proofs.YtnfbbjhdflhmjaaDoor
