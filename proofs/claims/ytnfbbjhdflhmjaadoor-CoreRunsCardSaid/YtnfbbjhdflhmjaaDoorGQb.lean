/- Chapter 19, the judge's: an expression's value. -/
import Derived.Test.YtnfbbjhdflhmjaaDoorGQa
set_option linter.unusedSimpArgs false
set_option linter.unusedVariables false
set_option maxRecDepth 10000
namespace Go.Proofs.YtnfbbjhdflhmjaaDoor
open Go.Al
section
variable {cx : Kx} {fu : Int} {W r w : Nat} {n : Nat}
set_option maxHeartbeats 4000000 in
theorem Ig (ih : Tb cx fu W r w n) (hx : Ot cx fu W) (i : Nat) (e : CE) (st : RS) (vo : AV) (vl : Int) (H : Hp) (o : Rz Int) (he : e.ok) (hw : Hv (W : Int) cx.funs i e) (hvl : cJ vl) (hR : dR cx fu W r w st vo 0 false vl H) (h : fJ cx (n + 1) e st = some o) :
  jN cO 61 [.ptr 11 r 0 0, .agg e.row] H (En cx fu W r w vo H o) := by
 obtain ⟨k, op, m, a, z, l⟩ := e
 have hr := hR.r
 have hnum := he.num
 have hkids := he.kids
 simp only [CE.num, CE.kids] at hnum hkids
 simp only [fJ] at h
 simp only [Hv] at hw
 obtain ⟨_, w2, w3, w4, w7, w6, wl⟩ := hw
 rw [CE.row_eq]
 simp only [CE.kind, CE.op, CE.num, CE.slot, CE.size, CE.kids]
 have hV := fun (j : Nat) (b : CE) (hj : l[j]? = some b) st vo vl H o h1 h2 h3 => ih.V i b st vo vl H o (hkids.all _ (bN hj)) (fX wl hj).1 h1 h2 h3
 have hW := hx.k.wl
 by_cases k1 : k = 1
 ·subst k1
  simp only [if_true] at h
  cases h
  refine bD 164 [.tmp 4] Tryd.func61 rfl rfl rfl rfl ?_
  refine aB fun K hK => ?_
  refine aA rfl ?_
  simp only [RR, seval]
  refine aK fun b3 hn3 => ?_
  have nb3_r : b3 ≠ r := fun e => by rw [e] at hn3; simp only [hr, seval, reduceCtorEq] at hn3
  have nr_b3 : r ≠ b3 := fun e => nb3_r e.symm
  simp only [RR, seval]
  refine hK _ _ ?_; clear hK K
  refine aJ ?_
  refine aB fun K hK => ?_
  refine aA rfl ?_
  simp only [RR, seval]
  refine hK _ _ ?_; clear hK K
  refine aQ ?_
  refine aB fun K hK => ?_
  refine aA rfl ?_
  simp only [RR, seval]
  refine hK _ _ ?_; clear hK K
  refine aI true rfl (fun _ => ?_) (fun hc => by cases hc)
  refine aB fun K hK => ?_
  refine aA rfl ?_
  simp only [RR, seval]
  refine hK _ _ ?_; clear hK K
  refine aP ?_; simp only [aV, aM, bE, RR, seval]
  exact aU.run ⟨m, vo, vl, rfl, hnum, (fun _ _ e => by cases e; rfl), (fun _ _ e => by cases e), hvl, hR.new hn3 _, (bO.refl _ _ _ _).updN hn3 _⟩
  skip
 by_cases k2 : k = 2
 ·subst k2
  simp only [show ¬ (2 : Int) = 1 by decide, if_false, if_true, aZ] at h
  obtain ⟨x, hg, rfl⟩ := h
  obtain ⟨z0, zl, hg⟩ := nP hg
  have hgx := fQ hg
  have hux := hR.uv x (bN hg)
  have hw := hR.v
  have nwr := hR.bwr
  have nrw : r ≠ w := Ne.symm nwr
  refine bD 164 [.tmp 4] Tryd.func61 rfl rfl rfl rfl ?_
  refine aB fun K hK => ?_
  refine aA rfl ?_
  simp only [RR, seval]
  refine aK fun b3 hn3 => ?_
  have nb3_r : b3 ≠ r := fun e => by rw [e] at hn3; simp only [hr, seval, reduceCtorEq] at hn3
  have nr_b3 : r ≠ b3 := fun e => nb3_r e.symm
  have nb3_w : b3 ≠ w := fun e => by rw [e] at hn3; simp only [hw, seval, reduceCtorEq] at hn3
  have nw_b3 : w ≠ b3 := fun e => nb3_w e.symm
  simp only [RR, seval]
  refine hK _ _ ?_; clear hK K
  refine aJ ?_
  refine aB fun K hK => ?_
  refine aA rfl ?_
  simp only [RR, seval]
  refine hK _ _ ?_; clear hK K
  refine aQ ?_
  refine aB fun K hK => ?_
  refine aA rfl ?_
  simp only [RR, seval]
  refine hK _ _ ?_; clear hK K
  refine aI false rfl (fun hc => by cases hc) (fun _ => ?_)
  refine aB fun K hK => ?_
  refine aA rfl ?_
  simp only [RR, seval]
  refine hK _ _ ?_; clear hK K
  refine aI true rfl (fun _ => ?_) (fun hc => by cases hc)
  refine aB fun K hK => ?_
  refine bC (fun _ => True) [(0, 3), (1, 3), (2, 3), (3, 1), (4, 3), (5, 1), (6, 3), (7, 1), (8, 3)] [] dB (by kernel_rfl) rfl rfl ?_
  simp only [bW, hr, hw, nr_b3, nw_b3, z0, zl, hgx, RR, seval]
  refine hK _ _ ?_; clear hK K
  refine aP ?_; simp only [aV, aM, bE, RR, seval]
  exact aU.run ⟨x, vo, vl, rfl, hux, (fun _ _ e => by cases e; rfl), (fun _ _ e => by cases e), hvl, hR.new hn3 _, (bO.refl _ _ _ _).updN hn3 _⟩
  skip
 by_cases k3 : k = 3
 ·subst k3
  simp only [show ¬ (3 : Int) = 1 by decide, show ¬ (3 : Int) = 2 by decide, if_false, if_true] at h
  obtain ⟨a0, a1, a2, a3, a4⟩ := w3 rfl
  cases hl0 : l[0]? with
  | none => rw [hl0] at h; cases h
  | some b =>
    simp only [hl0] at h
    have hg0 := jF hl0
    cases h1 : fJ cx n b st with
    | none => rw [h1] at h; cases h
    | some r1 =>
      rw [h1] at h
      have hVa := fun H' g2 => hV 0 b hl0 st vo vl H' r1 hvl g2 h1
      rw [b.row_eq] at hVa
      have ez : IntKind.wrap .u64 z = z := by simp [IntKind.wrap, IntKind.signed, IntKind.bits]; omega
      refine bD 164 [.tmp 4] Tryd.func61 rfl rfl rfl rfl ?_
      refine aB fun K hK => ?_
      refine aA rfl ?_
      simp only [RR, seval]
      refine aK fun b3 hn3 => ?_
      have nb3_r : b3 ≠ r := fun e => by rw [e] at hn3; simp only [hr, seval, reduceCtorEq] at hn3
      have nr_b3 : r ≠ b3 := fun e => nb3_r e.symm
      simp only [RR, seval]
      refine hK _ _ ?_; clear hK K
      refine aJ ?_
      refine aB fun K hK => ?_
      refine aA rfl ?_
      simp only [RR, seval]
      refine hK _ _ ?_; clear hK K
      refine aQ ?_
      refine aB fun K hK => ?_
      refine aA rfl ?_
      simp only [RR, seval]
      refine hK _ _ ?_; clear hK K
      refine aI false rfl (fun hc => by cases hc) (fun _ => ?_)
      refine aB fun K hK => ?_
      refine aA rfl ?_
      simp only [RR, seval]
      refine hK _ _ ?_; clear hK K
      refine aI false rfl (fun hc => by cases hc) (fun _ => ?_)
      refine aB fun K hK => ?_
      refine aA rfl ?_
      simp only [RR, seval]
      refine hK _ _ ?_; clear hK K
      refine aI true rfl (fun _ => ?_) (fun hc => by cases hc)
      refine bG fun F1 M1 hfr hH => ?_
      have g0 := hfr 0
      have g3 := hfr 3
      have g4 := hfr 4
      have gr := hH r
      have gb3 := hH b3
      try simp only [hr, nr_b3, RR, seval] at g0 g3 g4 gr gb3
      have hM := funext hH
      have hR0 := (hR.new hn3 _).same hH
      have hk0 : bO r w vo vo H M1 := by rw [hM]; exact (bO.refl _ _ _ _).updN hn3 _
      have f0 := g0; clear g0
      have f3 := g3; clear g3
      have f4 := g4; clear g4
      have hr := gr; clear gr
      have hb3 := gb3; clear gb3
      clear hfr hH
      refine aB fun K hK => ?_
      refine aA rfl ?_
      simp only [f0, f3, hb3, hg0, RR, seval]
      refine gI (hVa _ hR0) (fun _ => trivial) fun x vo1 vl1 H1 ux hwv1 hne1 hvl1 hR1 hk1 => ?_
      have hr := hR1.r
      have hb3 := hR0.keep hb3 (by decide) (by decide) hk1
      simp only [RR, seval]
      refine hK _ _ ?_; clear hK K
      refine aJ ?_
      refine aB fun K hK => ?_
      refine aA rfl ?_
      simp only [f0, hr, RR, seval]
      refine hK _ _ ?_; clear hK K
      refine aI _ rfl (fun hc8 => ?_) (fun hc8 => ?_)
      ·obtain ⟨e1, s1, rfl⟩ := fO (o := r1) (by simpa using hc8)
       obtain rfl := Option.some.inj (show some (Rz.fin e1 s1) = some o from h)
       refine aB fun K hK => ?_
       refine aA rfl ?_
       simp only [RR, seval]
       refine hK _ _ ?_; clear hK K
       refine aP ?_; simp only [aV, aM, bE, RR, seval]
       exact aU.run ⟨0, vo1, vl1, rfl, by simp [cJ], (fun _ _ e => by cases e), hne1, hvl1, hR1, hk0.trans hk1⟩
      obtain ⟨x1, s1, rfl⟩ := fF (o := r1) hne1 (by simpa using hc8)
      obtain rfl := hwv1 _ _ rfl
      simp only [bindR] at h
      have hR1 : dR cx fu W r w s1 vo1 0 false vl1 H1 := hR1
      have hr := hR1.r
      have hw := hR1.v
      have nwr := hR1.bwr
      have nrw : r ≠ w := Ne.symm nwr
      have nb3_w := hR1.nbw hb3 (by decide)
      have nw_b3 : w ≠ b3 := Ne.symm nb3_w
      have ex : IntKind.wrap .u64 x = x := by have := ux.1; have := ux.2; simp [IntKind.wrap, IntKind.signed, IntKind.bits]; omega
      have ex2 : IntKind.wrap .i64 x = x := aR _ (by have := ux.1; have := ux.2; omega)
      refine aL ?_; try simp only [RR]
      refine aJ ?_
      refine aB fun K hK => ?_
      refine aA rfl ?_
      simp only [f3, hb3, ez, ex, RR, seval]
      refine hK _ _ ?_; clear hK K
      refine aI _ rfl (fun hc10 => ?_) (fun hc10 => ?_)
      ·have hxz : ¬ x < z := by have := aC hc10; omega
       unfold He at h
       rw [if_neg hxz] at h
       obtain rfl := Option.some.inj (show some (Rz.fin 3 s1) = some o from h)
       refine aB fun K hK => ?_
       refine aA rfl ?_
       simp only [f0, hr, RR, seval]
       refine hK _ _ ?_; clear hK K
       refine aB fun K hK => ?_
       refine aA rfl ?_
       simp only [RR, seval]
       refine hK _ _ ?_; clear hK K
       refine aP ?_; simp only [aV, aM, bE, RR, seval]
       exact aU.run ⟨0, vo1, vl1, rfl, by simp [cJ], (fun _ _ e => by cases e), (fun _ _ e => by cases e; decide), hvl1, hR1.turn 3 false vl1 rfl rfl hR1.rd hR1.tk, (hk0.trans hk1).trans (bO.run _)⟩
      have hxz : x < z := by have := aF hc10; omega
      unfold He at h
      rw [if_pos hxz] at h
      simp only [aZ] at h
      obtain ⟨y, hy, rfl⟩ := h
      obtain ⟨z0, zl, hy⟩ := nP hy
      have hgy := fQ hy
      have uy := hR1.uv y (bN hy)
      have eax : IntKind.wrap .i64 (a + x) = a + x := aR _ (by have := ux.1; omega)
      refine aL ?_; try simp only [RR]
      refine aB fun K hK => ?_
      refine bC (fun _ => True) [(0, 3), (1, 3), (2, 3), (3, 1), (4, 3), (5, 1), (6, 3), (7, 3), (8, 3), (9, 3), (10, 1), (11, 3)] [] dB (by kernel_rfl) rfl rfl ?_
      simp only [bW, f0, f3, hr, hb3, hw, ex2, z0, zl, hgy, eax, RR, seval]
      refine hK _ _ ?_; clear hK K
      refine aP ?_; simp only [aV, aM, bE, RR, seval]
      exact aU.run ⟨y, vo1, vl1, rfl, uy, (fun _ _ e => by cases e; rfl), (fun _ _ e => by cases e), hvl1, hR1, hk0.trans hk1⟩
 by_cases k4 : k = 4
 ·subst k4
  simp only [show ¬ (4 : Int) = 1 by decide, show ¬ (4 : Int) = 2 by decide, show ¬ (4 : Int) = 3 by decide, if_false, if_true] at h
  obtain ⟨z0, _, f, hf, hp⟩ := w4 rfl
  have hcall := fun H' g => ih.C i a f l st vo vl H' o hkids wl z0 hf hp hvl g h
  refine bD 164 [.tmp 4] Tryd.func61 rfl rfl rfl rfl ?_
  refine aB fun K hK => ?_
  refine aA rfl ?_
  simp only [RR, seval]
  refine aK fun b3 hn3 => ?_
  have nb3_r : b3 ≠ r := fun e => by rw [e] at hn3; simp only [hr, seval, reduceCtorEq] at hn3
  have nr_b3 : r ≠ b3 := fun e => nb3_r e.symm
  simp only [RR, seval]
  refine hK _ _ ?_; clear hK K
  refine aJ ?_
  refine aB fun K hK => ?_
  refine aA rfl ?_
  simp only [RR, seval]
  refine hK _ _ ?_; clear hK K
  refine aQ ?_
  refine aB fun K hK => ?_
  refine aA rfl ?_
  simp only [RR, seval]
  refine hK _ _ ?_; clear hK K
  refine aI false rfl (fun hc => by cases hc) (fun _ => ?_)
  refine aB fun K hK => ?_
  refine aA rfl ?_
  simp only [RR, seval]
  refine hK _ _ ?_; clear hK K
  refine aI false rfl (fun hc => by cases hc) (fun _ => ?_)
  refine aB fun K hK => ?_
  refine aA rfl ?_
  simp only [RR, seval]
  refine hK _ _ ?_; clear hK K
  refine aI false rfl (fun hc => by cases hc) (fun _ => ?_)
  refine aB fun K hK => ?_
  refine aA rfl ?_
  simp only [RR, seval]
  refine hK _ _ ?_; clear hK K
  refine aI true rfl (fun _ => ?_) (fun hc => by cases hc)
  refine bG fun F1 M1 hfr hH => ?_
  have g0 := hfr 0
  have g3 := hfr 3
  have g4 := hfr 4
  have gr := hH r
  have gb3 := hH b3
  try simp only [hr, nr_b3, RR, seval] at g0 g3 g4 gr gb3
  have hM := funext hH
  have hR0 := (hR.new hn3 _).same hH
  have hk0 : bO r w vo vo H M1 := by rw [hM]; exact (bO.refl _ _ _ _).updN hn3 _
  have f0 := g0; clear g0
  have f3 := g3; clear g3
  have f4 := g4; clear g4
  have hr := gr; clear gr
  have hb3 := gb3; clear gb3
  clear hfr hH
  refine aB fun K hK => ?_
  refine aA rfl ?_
  simp only [f0, f3, hb3, RR, seval]
  refine gI (hcall _ hR0) (fun _ => trivial) fun x vo1 vl1 H1 ux hwv1 hne1 hvl1 hR1 hk1 => ?_
  simp only [RR, seval]
  refine hK _ _ ?_; clear hK K
  refine aP ?_; simp only [aV, aM, bE, RR, seval]
  exact aU.run ⟨x, vo1, vl1, rfl, ux, hwv1, hne1, hvl1, hR1, hk0.trans hk1⟩
  skip
 by_cases k5 : k = 5
 ·subst k5
  simp only [show ¬ (5 : Int) = 1 by decide, show ¬ (5 : Int) = 2 by decide, show ¬ (5 : Int) = 3 by decide, show ¬ (5 : Int) = 4 by decide, if_false, if_true, Option.some.injEq] at h
  have hrd := hR.rd
  have hin := hx.k.inp
  by_cases hf : cx.inp.length ≤ st.read
  ·have zf : (cx.inp.length : Int) ≤ (st.read : Int) := by omega
   have e : kY cx.cx st = .val 256 st := by unfold kY; rw [List.getElem?_eq_none (show cx.cx.inp.length ≤ st.read from hf)]
   rw [e] at h
   subst h
   refine bD 164 [.tmp 4] Tryd.func61 rfl rfl rfl rfl ?_
   refine aB fun K hK => ?_
   refine aA rfl ?_
   simp only [RR, seval]
   refine aK fun b3 hn3 => ?_
   have nb3_r : b3 ≠ r := fun e => by rw [e] at hn3; simp only [hr, seval, reduceCtorEq] at hn3
   have nr_b3 : r ≠ b3 := fun e => nb3_r e.symm
   simp only [RR, seval]
   refine hK _ _ ?_; clear hK K
   refine aJ ?_
   refine aB fun K hK => ?_
   refine aA rfl ?_
   simp only [RR, seval]
   refine hK _ _ ?_; clear hK K
   refine aQ ?_
   refine aB fun K hK => ?_
   refine aA rfl ?_
   simp only [RR, seval]
   refine hK _ _ ?_; clear hK K
   refine aI false rfl (fun hc => by cases hc) (fun _ => ?_)
   refine aB fun K hK => ?_
   refine aA rfl ?_
   simp only [RR, seval]
   refine hK _ _ ?_; clear hK K
   refine aI false rfl (fun hc => by cases hc) (fun _ => ?_)
   refine aB fun K hK => ?_
   refine aA rfl ?_
   simp only [RR, seval]
   refine hK _ _ ?_; clear hK K
   refine aI false rfl (fun hc => by cases hc) (fun _ => ?_)
   refine aB fun K hK => ?_
   refine aA rfl ?_
   simp only [RR, seval]
   refine hK _ _ ?_; clear hK K
   refine aI false rfl (fun hc => by cases hc) (fun _ => ?_)
   refine aB fun K hK => ?_
   refine aA rfl ?_
   simp only [RR, seval]
   refine hK _ _ ?_; clear hK K
   refine aI true rfl (fun _ => ?_) (fun hc => by cases hc)
   refine aJ ?_
   refine aB fun K hK => ?_
   refine bC (fun _ => True) [(0, 3), (1, 3), (2, 3), (3, 1), (4, 3), (5, 3), (6, 3), (7, 1), (8, 3), (9, 3)] [] dB (by kernel_rfl) rfl rfl ?_
   simp only [bW, hr, nr_b3, zf, RR, seval]
   refine hK _ _ ?_; clear hK K
   refine aI true rfl (fun _ => ?_) (fun hc => by cases hc)
   refine aB fun K hK => ?_
   refine aA rfl ?_
   simp only [RR, seval]
   refine hK _ _ ?_; clear hK K
   refine aP ?_; simp only [aV, aM, bE, RR, seval]
   exact aU.run ⟨256, vo, vl, rfl, by simp [cJ], (fun _ _ e => by cases e; rfl), (fun _ _ e => by cases e), hvl, hR.new hn3 _, (bO.refl _ _ _ _).updN hn3 _⟩
   skip
  have zf : ¬ (cx.inp.length : Int) ≤ (st.read : Int) := by omega
  have hg := aH (show st.read < cx.inp.length by omega)
  generalize cx.inp[st.read] = c at hg
  have e : kY cx.cx st = .val c.toNat { st with read := st.read + 1 } := by unfold kY; rw [show cx.cx.inp[st.read]? = some c from hg]
  rw [e] at h
  subst h
  have e1 : IntKind.wrap .i64 ((st.read : Int) + 1) = ((st.read + 1 : Nat) : Int) := by rw [aR _ (by omega)]; omega
  have e3 : IntKind.wrap .i64 (((st.read + 1 : Nat) : Int) - 1) = (st.read : Int) := by rw [aR _ (by omega)]; omega
  have hc := UInt8.toNat_lt c
  have hu2 : cJ (c.toNat : Int) := ⟨by omega, by omega⟩
  have e2 : IntKind.wrap .u32 (c.toNat : Int) = (c.toNat : Int) := by simp [IntKind.wrap, IntKind.signed, IntKind.bits]; omega
  refine bD 164 [.tmp 4] Tryd.func61 rfl rfl rfl rfl ?_
  refine aB fun K hK => ?_
  refine aA rfl ?_
  simp only [RR, seval]
  refine aK fun b3 hn3 => ?_
  have nb3_r : b3 ≠ r := fun e => by rw [e] at hn3; simp only [hr, seval, reduceCtorEq] at hn3
  have nr_b3 : r ≠ b3 := fun e => nb3_r e.symm
  simp only [RR, seval]
  refine hK _ _ ?_; clear hK K
  refine aJ ?_
  refine aB fun K hK => ?_
  refine aA rfl ?_
  simp only [RR, seval]
  refine hK _ _ ?_; clear hK K
  refine aQ ?_
  refine aB fun K hK => ?_
  refine aA rfl ?_
  simp only [RR, seval]
  refine hK _ _ ?_; clear hK K
  refine aI false rfl (fun hc => by cases hc) (fun _ => ?_)
  refine aB fun K hK => ?_
  refine aA rfl ?_
  simp only [RR, seval]
  refine hK _ _ ?_; clear hK K
  refine aI false rfl (fun hc => by cases hc) (fun _ => ?_)
  refine aB fun K hK => ?_
  refine aA rfl ?_
  simp only [RR, seval]
  refine hK _ _ ?_; clear hK K
  refine aI false rfl (fun hc => by cases hc) (fun _ => ?_)
  refine aB fun K hK => ?_
  refine aA rfl ?_
  simp only [RR, seval]
  refine hK _ _ ?_; clear hK K
  refine aI false rfl (fun hc => by cases hc) (fun _ => ?_)
  refine aB fun K hK => ?_
  refine aA rfl ?_
  simp only [RR, seval]
  refine hK _ _ ?_; clear hK K
  refine aI true rfl (fun _ => ?_) (fun hc => by cases hc)
  refine aJ ?_
  refine aB fun K hK => ?_
  refine bC (fun _ => True) [(0, 3), (1, 3), (2, 3), (3, 1), (4, 3), (5, 3), (6, 3), (7, 1), (8, 3), (9, 3)] [] dB (by kernel_rfl) rfl rfl ?_
  simp only [bW, hr, nr_b3, zf, RR, seval]
  refine hK _ _ ?_; clear hK K
  refine aI false rfl (fun hc => by cases hc) (fun _ => ?_)
  refine aL ?_; try simp only [RR]
  refine aB fun K hK => ?_
  refine aA rfl ?_
  simp only [hr, nr_b3, e1, RR, seval]
  refine hK _ _ ?_; clear hK K
  refine aB fun K hK => ?_
  refine bC (fun _ => True) [(0, 3), (1, 3), (2, 3), (3, 1), (4, 3), (5, 3), (6, 3), (7, 1), (8, 3), (9, 3), (10, 3), (11, 3)] [] dB (by kernel_rfl) rfl rfl ?_
  simp only [bW, hg, e2, e3, RR, seval]
  refine hK _ _ ?_; clear hK K
  refine aP ?_; simp only [aV, aM, bE, RR, seval]
  exact aU.run ⟨_, vo, vl, rfl, hu2, (fun _ _ e => by cases e; rfl), (fun _ _ e => by cases e), hvl, dR.turn (st' := { st with read := st.read + 1 }) (hR.new hn3 _) 0 false vl rfl rfl (by show st.read + 1 ≤ _; omega) hR.tk, ((bO.refl _ _ _ _).updN hn3 _).trans (bO.run _)⟩
  skip
 simp only [if_neg k1, if_neg k2, if_neg k3, if_neg k4, if_neg k5] at h
 cases hl0 : l[0]? with
 | none => rw [hl0] at h; cases h
 | some b =>
   simp only [hl0] at h
   have hg0 := jF hl0
   obtain ⟨r1, h1⟩ : ∃ r1, fJ cx n b st = some r1 := by
    cases h1 : fJ cx n b st with
    | none =>
      rw [h1] at h
      by_cases k7 : k = 7
      ·rw [if_pos k7] at h; cases h
      rw [if_neg k7] at h
      cases hl1 : l[1]? with
      | none => rw [hl1] at h; cases h
      | some d =>
        simp only [hl1] at h
        by_cases k6 : k = 6
        ·rw [if_pos k6] at h; cases h
        rw [if_neg k6] at h; cases h
    | some r1 => exact ⟨r1, rfl⟩
   rw [h1] at h
   have hVa := fun H' g2 => hV 0 b hl0 st vo vl H' r1 hvl g2 h1
   rw [b.row_eq] at hVa
   by_cases k7 : k = 7
   ·subst k7
    simp only [if_true] at h
    refine bD 164 [.tmp 4] Tryd.func61 rfl rfl rfl rfl ?_
    refine aB fun K hK => ?_
    refine aA rfl ?_
    simp only [RR, seval]
    refine aK fun b3 hn3 => ?_
    have nb3_r : b3 ≠ r := fun e => by rw [e] at hn3; simp only [hr, seval, reduceCtorEq] at hn3
    have nr_b3 : r ≠ b3 := fun e => nb3_r e.symm
    simp only [RR, seval]
    refine hK _ _ ?_; clear hK K
    refine aJ ?_
    refine aB fun K hK => ?_
    refine aA rfl ?_
    simp only [RR, seval]
    refine hK _ _ ?_; clear hK K
    refine aQ ?_
    refine aB fun K hK => ?_
    refine aA rfl ?_
    simp only [RR, seval]
    refine hK _ _ ?_; clear hK K
    refine aI false rfl (fun hc => by cases hc) (fun _ => ?_)
    refine aB fun K hK => ?_
    refine aA rfl ?_
    simp only [RR, seval]
    refine hK _ _ ?_; clear hK K
    refine aI false rfl (fun hc => by cases hc) (fun _ => ?_)
    refine aB fun K hK => ?_
    refine aA rfl ?_
    simp only [RR, seval]
    refine hK _ _ ?_; clear hK K
    refine aI false rfl (fun hc => by cases hc) (fun _ => ?_)
    refine aB fun K hK => ?_
    refine aA rfl ?_
    simp only [RR, seval]
    refine hK _ _ ?_; clear hK K
    refine aI false rfl (fun hc => by cases hc) (fun _ => ?_)
    refine aB fun K hK => ?_
    refine aA rfl ?_
    simp only [RR, seval]
    refine hK _ _ ?_; clear hK K
    refine aI false rfl (fun hc => by cases hc) (fun _ => ?_)
    refine aL ?_; try simp only [RR]
    refine bG fun F1 M1 hfr hH => ?_
    have g0 := hfr 0
    have g3 := hfr 3
    have g4 := hfr 4
    have gr := hH r
    have gb3 := hH b3
    try simp only [hr, nr_b3, RR, seval] at g0 g3 g4 gr gb3
    have hM := funext hH
    have hR0 := (hR.new hn3 _).same hH
    have hk0 : bO r w vo vo H M1 := by rw [hM]; exact (bO.refl _ _ _ _).updN hn3 _
    have f0 := g0; clear g0
    have f3 := g3; clear g3
    have f4 := g4; clear g4
    have hr := gr; clear gr
    have hb3 := gb3; clear gb3
    clear hfr hH
    refine aB fun K hK => ?_
    refine aA rfl ?_
    simp only [f0, f3, hb3, hg0, RR, seval]
    refine gI (hVa _ hR0) (fun _ => trivial) fun x vo1 vl1 H1 ux hwv1 hne1 hvl1 hR1 hk1 => ?_
    have hr := hR1.r
    have hb3 := hR0.keep hb3 (by decide) (by decide) hk1
    simp only [RR, seval]
    refine hK _ _ ?_; clear hK K
    refine aJ ?_
    refine aB fun K hK => ?_
    refine aA rfl ?_
    simp only [f0, hr, RR, seval]
    refine hK _ _ ?_; clear hK K
    refine aI _ rfl (fun hc22 => ?_) (fun hc22 => ?_)
    ·obtain ⟨e1, s1, rfl⟩ := fO (o := r1) (by simpa using hc22)
     obtain rfl := Option.some.inj (show some (Rz.fin e1 s1) = some o from h)
     refine aB fun K hK => ?_
     refine aA rfl ?_
     simp only [RR, seval]
     refine hK _ _ ?_; clear hK K
     refine aP ?_; simp only [aV, aM, bE, RR, seval]
     exact aU.run ⟨0, vo1, vl1, rfl, by simp [cJ], (fun _ _ e => by cases e), hne1, hvl1, hR1, hk0.trans hk1⟩
    obtain ⟨x1, s1, rfl⟩ := fF (o := r1) hne1 (by simpa using hc22)
    obtain rfl := hwv1 _ _ rfl
    simp only [bindR] at h
    cases h
    refine aL ?_; try simp only [RR]
    refine aJ ?_
    refine aB fun K hK => ?_
    refine aA rfl ?_
    simp only [f3, hb3, RR, seval]
    refine hK _ _ ?_; clear hK K
    refine aQ ?_
    refine aB fun K hK => ?_
    refine aA rfl ?_
    simp only [RR, seval]
    refine hK _ _ ?_; clear hK K
    refine aI true rfl (fun _ => ?_) (fun hc => by cases hc)
    refine aB fun K hK => ?_
    refine aA rfl ?_
    simp only [RR, seval]
    refine aO (tG _) ?_
    simp only [RR, seval]
    refine hK _ _ ?_; clear hK K
    refine aP ?_; simp only [aV, aM, bE, RR, seval]
    exact aU.run ⟨_, vo1, vl1, rfl, by split <;> simp [cJ], (fun _ _ e => by cases e; simp), (fun _ _ e => by cases e), hvl1, hR1, hk0.trans hk1⟩
   rw [if_neg k7] at h
   cases hl1 : l[1]? with
   | none => rw [hl1] at h; cases h
   | some d =>
     simp only [hl1] at h
     have hg1 := jF hl1
     have hVb := fun vo vl st' H' r2 g1 g2 g3 => hV 1 d hl1 st' vo vl H' r2 g1 g2 g3
     rw [d.row_eq] at hVb
     by_cases k6 : k = 6
     ·subst k6
      simp only [if_true] at h
      refine bD 164 [.tmp 4] Tryd.func61 rfl rfl rfl rfl ?_
      refine aB fun K hK => ?_
      refine aA rfl ?_
      simp only [RR, seval]
      refine aK fun b3 hn3 => ?_
      have nb3_r : b3 ≠ r := fun e => by rw [e] at hn3; simp only [hr, seval, reduceCtorEq] at hn3
      have nr_b3 : r ≠ b3 := fun e => nb3_r e.symm
      simp only [RR, seval]
      refine hK _ _ ?_; clear hK K
      refine aJ ?_
      refine aB fun K hK => ?_
      refine aA rfl ?_
      simp only [RR, seval]
      refine hK _ _ ?_; clear hK K
      refine aQ ?_
      refine aB fun K hK => ?_
      refine aA rfl ?_
      simp only [RR, seval]
      refine hK _ _ ?_; clear hK K
      refine aI false rfl (fun hc => by cases hc) (fun _ => ?_)
      refine aB fun K hK => ?_
      refine aA rfl ?_
      simp only [RR, seval]
      refine hK _ _ ?_; clear hK K
      refine aI false rfl (fun hc => by cases hc) (fun _ => ?_)
      refine aB fun K hK => ?_
      refine aA rfl ?_
      simp only [RR, seval]
      refine hK _ _ ?_; clear hK K
      refine aI false rfl (fun hc => by cases hc) (fun _ => ?_)
      refine aB fun K hK => ?_
      refine aA rfl ?_
      simp only [RR, seval]
      refine hK _ _ ?_; clear hK K
      refine aI false rfl (fun hc => by cases hc) (fun _ => ?_)
      refine aB fun K hK => ?_
      refine aA rfl ?_
      simp only [RR, seval]
      refine hK _ _ ?_; clear hK K
      refine aI false rfl (fun hc => by cases hc) (fun _ => ?_)
      refine aL ?_; try simp only [RR]
      refine bG fun F1 M1 hfr hH => ?_
      have g0 := hfr 0
      have g3 := hfr 3
      have g4 := hfr 4
      have gr := hH r
      have gb3 := hH b3
      try simp only [hr, nr_b3, RR, seval] at g0 g3 g4 gr gb3
      have hM := funext hH
      have hR0 := (hR.new hn3 _).same hH
      have hk0 : bO r w vo vo H M1 := by rw [hM]; exact (bO.refl _ _ _ _).updN hn3 _
      have f0 := g0; clear g0
      have f3 := g3; clear g3
      have f4 := g4; clear g4
      have hr := gr; clear gr
      have hb3 := gb3; clear gb3
      clear hfr hH
      refine aB fun K hK => ?_
      refine aA rfl ?_
      simp only [f0, f3, hb3, hg0, RR, seval]
      refine gI (hVa _ hR0) (fun _ => trivial) fun x vo1 vl1 H1 ux hwv1 hne1 hvl1 hR1 hk1 => ?_
      have hr := hR1.r
      have hb3 := hR0.keep hb3 (by decide) (by decide) hk1
      simp only [RR, seval]
      refine hK _ _ ?_; clear hK K
      refine aJ ?_
      refine aB fun K hK => ?_
      refine aA rfl ?_
      simp only [f0, hr, RR, seval]
      refine hK _ _ ?_; clear hK K
      refine aI _ rfl (fun hc22 => ?_) (fun hc22 => ?_)
      ·obtain ⟨e1, s1, rfl⟩ := fO (o := r1) (by simpa using hc22)
       obtain rfl := Option.some.inj (show some (Rz.fin e1 s1) = some o from h)
       refine aB fun K hK => ?_
       refine aA rfl ?_
       simp only [RR, seval]
       refine hK _ _ ?_; clear hK K
       refine aP ?_; simp only [aV, aM, bE, RR, seval]
       exact aU.run ⟨0, vo1, vl1, rfl, by simp [cJ], (fun _ _ e => by cases e), hne1, hvl1, hR1, hk0.trans hk1⟩
      obtain ⟨x1, s1, rfl⟩ := fF (o := r1) hne1 (by simpa using hc22)
      obtain rfl := hwv1 _ _ rfl
      simp only [bindR] at h
      have hR1 : dR cx fu W r w s1 vo1 0 false vl1 H1 := hR1
      obtain ⟨r2, h2⟩ : ∃ r2, fJ cx n d s1 = some r2 := by
       cases h2 : fJ cx n d s1 with
       | none => rw [h2] at h; cases h
       | some r2 => exact ⟨r2, rfl⟩
      rw [h2] at h
      refine aL ?_; try simp only [RR]
      refine aJ ?_
      refine aB fun K hK => ?_
      refine aA rfl ?_
      simp only [f3, hb3, RR, seval]
      refine hK _ _ ?_; clear hK K
      refine aQ ?_
      refine aB fun K hK => ?_
      refine aA rfl ?_
      simp only [RR, seval]
      refine hK _ _ ?_; clear hK K
      refine aI false rfl (fun hc => by cases hc) (fun _ => ?_)
      refine aB fun K hK => ?_
      refine aA rfl ?_
      simp only [RR, seval]
      refine hK _ _ ?_; clear hK K
      refine aI false rfl (fun hc => by cases hc) (fun _ => ?_)
      refine aB fun K hK => ?_
      refine aA rfl ?_
      simp only [RR, seval]
      refine hK _ _ ?_; clear hK K
      refine aI false rfl (fun hc => by cases hc) (fun _ => ?_)
      refine aL ?_; try simp only [RR]
      refine aB fun K hK => ?_
      refine aA rfl ?_
      simp only [f0, f3, hb3, hg1, RR, seval]
      refine gI (hVb _ _ _ _ _ hvl1 hR1 h2) (fun _ => trivial) fun y vo2 vl2 H2 uy hwv2 hne2 hvl2 hR2 hk2 => ?_
      have hr := hR2.r
      have hb3 := hR1.keep hb3 (by decide) (by decide) hk2
      have hk02 := (hk0.trans hk1).trans hk2
      simp only [RR, seval]
      refine hK _ _ ?_; clear hK K
      refine aJ ?_
      refine aB fun K hK => ?_
      refine aA rfl ?_
      simp only [f0, hr, RR, seval]
      refine hK _ _ ?_; clear hK K
      refine aI _ rfl (fun hc36 => ?_) (fun hc36 => ?_)
      ·obtain ⟨e1, s2, rfl⟩ := fO (o := r2) (by simpa using hc36)
       obtain rfl := Option.some.inj (show some (Rz.fin e1 s2) = some o from h)
       refine aB fun K hK => ?_
       refine aA rfl ?_
       simp only [RR, seval]
       refine hK _ _ ?_; clear hK K
       refine aP ?_; simp only [aV, aM, bE, RR, seval]
       exact aU.run ⟨0, vo2, vl2, rfl, by simp [cJ], (fun _ _ e => by cases e), hne2, hvl2, hR2, hk02⟩
      obtain ⟨x2, s2, rfl⟩ := fF (o := r2) hne2 (by simpa using hc36)
      obtain rfl := hwv2 _ _ rfl
      simp only [] at h
      have hR2 : dR cx fu W r w s2 vo2 0 false vl2 H2 := hR2
      have hr := hR2.r
      have hA := Ki op ux uy
      have uA := yK op ux uy
      generalize dA op x y = q at hA uA h
      obtain ⟨q1, q2⟩ := q
      refine aL ?_; try simp only [RR]
      refine aB fun K hK => ?_
      refine aA rfl ?_
      simp only [f3, hb3, RR, seval]
      refine aO (hA) ?_
      simp only [RR, seval]
      refine hK _ _ ?_; clear hK K
      refine aJ ?_
      refine aB fun K hK => ?_
      refine aA rfl ?_
      simp only [RR, seval]
      refine hK _ _ ?_; clear hK K
      refine aI _ rfl (fun hc39 => ?_) (fun hc39 => ?_)
      ·rw [if_neg (show ¬ q2 = 0 by simpa using hc39)] at h
       cases h
       have hfin := And.intro (dR.turn hR2 2 false vl2 rfl rfl hR2.rd hR2.tk) (hk02.trans (bO.run (some (.rows 11 [[.int .i64 (W : Int), .isl 5 (cx.funs.map CF.row), .osl 1 w s2.vars.length, .str cx.inp, .int .i64 s2.read, vo2, .int .i64 s2.ticks, .int .i64 fu, .int .i64 2, .bool false, .int .u32 vl2]]))))
       have hfv : (∀ v s, (Rz.fin 2 s2 : Rz Int) = .val v s → q1 = v) ∧ ∀ e s, (Rz.fin 2 s2 : Rz Int) = .fin e s → e ≠ 0 := ⟨(fun _ _ e => by cases e), fun _ _ e => by cases e; decide⟩
       refine aA rfl ?_
       simp only [f0, hr, RR, seval]
       refine aB fun K hK => ?_
       refine aA rfl ?_
       simp only [RR, seval]
       refine hK _ _ ?_; clear hK K
       refine aP ?_; simp only [aV, aM, bE, RR, seval]
       exact aU.run ⟨q1, vo2, vl2, rfl, uA, hfv.1, hfv.2, hvl2, hfin.1, hfin.2⟩
      rw [if_pos (show q2 = 0 by simpa using hc39)] at h
      cases h
      have hfin := And.intro hR2 hk02
      have hfv : (∀ v s, (Rz.val q1 s2 : Rz Int) = .val v s → q1 = v) ∧ ∀ e s, (Rz.val q1 s2 : Rz Int) = .fin e s → e ≠ 0 := ⟨(fun _ _ e => by cases e; rfl), fun _ _ e => by cases e⟩
      refine aL ?_; try simp only [RR]
      refine aB fun K hK => ?_
      refine aA rfl ?_
      simp only [RR, seval]
      refine hK _ _ ?_; clear hK K
      refine aP ?_; simp only [aV, aM, bE, RR, seval]
      exact aU.run ⟨q1, vo2, vl2, rfl, uA, hfv.1, hfv.2, hvl2, hfin.1, hfin.2⟩
     rw [if_neg k6] at h
     have hk89 : k = 8 ∨ k = 9 := by
      rcases (w6 k1 k2 k3 k4 k5 k7).2 with e | e
      ·exact absurd e k6
      exact e
     clear w2 w3 w4 w7 w6 k1 k2 k3 k4 k5 k6 k7
     rcases hk89 with rfl | rfl
     ·skip
      refine bD 164 [.tmp 4] Tryd.func61 rfl rfl rfl rfl ?_
      refine aB fun K hK => ?_
      refine aA rfl ?_
      simp only [RR, seval]
      refine aK fun b3 hn3 => ?_
      have nb3_r : b3 ≠ r := fun e => by rw [e] at hn3; simp only [hr, seval, reduceCtorEq] at hn3
      have nr_b3 : r ≠ b3 := fun e => nb3_r e.symm
      simp only [RR, seval]
      refine hK _ _ ?_; clear hK K
      refine aJ ?_
      refine aB fun K hK => ?_
      refine aA rfl ?_
      simp only [RR, seval]
      refine hK _ _ ?_; clear hK K
      refine aQ ?_
      refine aB fun K hK => ?_
      refine aA rfl ?_
      simp only [RR, seval]
      refine hK _ _ ?_; clear hK K
      refine aI false rfl (fun hc => by cases hc) (fun _ => ?_)
      refine aB fun K hK => ?_
      refine aA rfl ?_
      simp only [RR, seval]
      refine hK _ _ ?_; clear hK K
      refine aI false rfl (fun hc => by cases hc) (fun _ => ?_)
      refine aB fun K hK => ?_
      refine aA rfl ?_
      simp only [RR, seval]
      refine hK _ _ ?_; clear hK K
      refine aI false rfl (fun hc => by cases hc) (fun _ => ?_)
      refine aB fun K hK => ?_
      refine aA rfl ?_
      simp only [RR, seval]
      refine hK _ _ ?_; clear hK K
      refine aI false rfl (fun hc => by cases hc) (fun _ => ?_)
      refine aB fun K hK => ?_
      refine aA rfl ?_
      simp only [RR, seval]
      refine hK _ _ ?_; clear hK K
      refine aI false rfl (fun hc => by cases hc) (fun _ => ?_)
      refine aL ?_; try simp only [RR]
      refine bG fun F1 M1 hfr hH => ?_
      have g0 := hfr 0
      have g3 := hfr 3
      have g4 := hfr 4
      have gr := hH r
      have gb3 := hH b3
      try simp only [hr, nr_b3, RR, seval] at g0 g3 g4 gr gb3
      have hM := funext hH
      have hR0 := (hR.new hn3 _).same hH
      have hk0 : bO r w vo vo H M1 := by rw [hM]; exact (bO.refl _ _ _ _).updN hn3 _
      have f0 := g0; clear g0
      have f3 := g3; clear g3
      have f4 := g4; clear g4
      have hr := gr; clear gr
      have hb3 := gb3; clear gb3
      clear hfr hH
      refine aB fun K hK => ?_
      refine aA rfl ?_
      simp only [f0, f3, hb3, hg0, RR, seval]
      refine gI (hVa _ hR0) (fun _ => trivial) fun x vo1 vl1 H1 ux hwv1 hne1 hvl1 hR1 hk1 => ?_
      have hr := hR1.r
      have hb3 := hR0.keep hb3 (by decide) (by decide) hk1
      simp only [RR, seval]
      refine hK _ _ ?_; clear hK K
      refine aJ ?_
      refine aB fun K hK => ?_
      refine aA rfl ?_
      simp only [f0, hr, RR, seval]
      refine hK _ _ ?_; clear hK K
      refine aI _ rfl (fun hc22 => ?_) (fun hc22 => ?_)
      ·obtain ⟨e1, s1, rfl⟩ := fO (o := r1) (by simpa using hc22)
       obtain rfl := Option.some.inj (show some (Rz.fin e1 s1) = some o from h)
       refine aB fun K hK => ?_
       refine aA rfl ?_
       simp only [RR, seval]
       refine hK _ _ ?_; clear hK K
       refine aP ?_; simp only [aV, aM, bE, RR, seval]
       exact aU.run ⟨0, vo1, vl1, rfl, by simp [cJ], (fun _ _ e => by cases e), hne1, hvl1, hR1, hk0.trans hk1⟩
      obtain ⟨x1, s1, rfl⟩ := fF (o := r1) hne1 (by simpa using hc22)
      obtain rfl := hwv1 _ _ rfl
      simp only [bindR] at h
      have hR1 : dR cx fu W r w s1 vo1 0 false vl1 H1 := hR1
      refine aL ?_; try simp only [RR]
      refine aJ ?_
      refine aB fun K hK => ?_
      refine aA rfl ?_
      simp only [f3, hb3, RR, seval]
      refine hK _ _ ?_; clear hK K
      refine aQ ?_
      refine aB fun K hK => ?_
      refine aA rfl ?_
      simp only [RR, seval]
      refine hK _ _ ?_; clear hK K
      refine aI false rfl (fun hc => by cases hc) (fun _ => ?_)
      refine aB fun K hK => ?_
      refine aA rfl ?_
      simp only [RR, seval]
      refine hK _ _ ?_; clear hK K
      refine aI true rfl (fun _ => ?_) (fun hc => by cases hc)
      refine aJ ?_
      refine aB fun K hK => ?_
      refine aA rfl ?_
      simp only [RR, seval]
      refine hK _ _ ?_; clear hK K
      refine aI _ rfl (fun hc28 => ?_) (fun hc28 => ?_)
      ·have hx0 : x = 0 := by simpa using hc28
       rw [if_pos (by simp [hx0])] at h
       cases h
       refine aB fun K hK => ?_
       refine aA rfl ?_
       simp only [RR, seval]
       refine hK _ _ ?_; clear hK K
       refine aP ?_; simp only [aV, aM, bE, RR, seval]
       exact aU.run ⟨0, vo1, vl1, rfl, by simp [cJ], (fun _ _ e => by cases e; simp [hx0]), (fun _ _ e => by cases e), hvl1, hR1, hk0.trans hk1⟩
      have hx0 : ¬ x = 0 := by simpa using hc28
      rw [if_neg (by simp [hx0])] at h
      obtain ⟨r2, h2⟩ : ∃ r2, fJ cx n d s1 = some r2 := by
       cases h2 : fJ cx n d s1 with
       | none => rw [h2] at h; cases h
       | some r2 => exact ⟨r2, rfl⟩
      rw [h2] at h
      refine aL ?_; try simp only [RR]
      refine aB fun K hK => ?_
      refine aA rfl ?_
      simp only [f0, f3, hb3, hg1, RR, seval]
      refine gI (hVb _ _ _ _ _ hvl1 hR1 h2) (fun _ => trivial) fun y vo2 vl2 H2 uy hwv2 hne2 hvl2 hR2 hk2 => ?_
      simp only [RR, seval]
      refine aO (tG _) ?_
      simp only [RR, seval]
      refine hK _ _ ?_; clear hK K
      have hend : ∃ w', (if (!decide (y = 0)) = true then (1 : Int) else 0) = w' ∧ cJ w' ∧ (∀ v s, o = .val v s → w' = v) ∧ (∀ e s, o = .fin e s → e ≠ 0) ∧ nU o = nU r2 ∧ o.st = r2.st := by
       refine ⟨_, rfl, by split <;> simp [cJ], ?_⟩
       cases r2 with
       | fin e1 s1 =>
         obtain rfl := Option.some.inj (show some (Rz.fin e1 s1) = some o from h)
         exact ⟨(fun _ _ e => by cases e), hne2, rfl, rfl⟩
       | val x1 s1 =>
         obtain rfl := hwv2 _ _ rfl
         obtain rfl := Option.some.inj (show some (Rz.val (if y = 0 then (0 : Int) else 1) s1) = some o from h)
         exact ⟨(fun v s e => by cases e; by_cases hy : y = 0 <;> simp [hy]), (fun _ _ e => by cases e), rfl, rfl⟩
      obtain ⟨w', hw', uw', g1, g2, g3, g4⟩ := hend
      rw [← g3, ← g4] at hR2
      refine aP ?_; simp only [aV, aM, bE, RR, seval]
      exact aU.run ⟨_, vo2, vl2, by rw [hw'], uw', g1, g2, hvl2, hR2, (hk0.trans hk1).trans hk2⟩
     skip
     refine bD 164 [.tmp 4] Tryd.func61 rfl rfl rfl rfl ?_
     refine aB fun K hK => ?_
     refine aA rfl ?_
     simp only [RR, seval]
     refine aK fun b3 hn3 => ?_
     have nb3_r : b3 ≠ r := fun e => by rw [e] at hn3; simp only [hr, seval, reduceCtorEq] at hn3
     have nr_b3 : r ≠ b3 := fun e => nb3_r e.symm
     simp only [RR, seval]
     refine hK _ _ ?_; clear hK K
     refine aJ ?_
     refine aB fun K hK => ?_
     refine aA rfl ?_
     simp only [RR, seval]
     refine hK _ _ ?_; clear hK K
     refine aQ ?_
     refine aB fun K hK => ?_
     refine aA rfl ?_
     simp only [RR, seval]
     refine hK _ _ ?_; clear hK K
     refine aI false rfl (fun hc => by cases hc) (fun _ => ?_)
     refine aB fun K hK => ?_
     refine aA rfl ?_
     simp only [RR, seval]
     refine hK _ _ ?_; clear hK K
     refine aI false rfl (fun hc => by cases hc) (fun _ => ?_)
     refine aB fun K hK => ?_
     refine aA rfl ?_
     simp only [RR, seval]
     refine hK _ _ ?_; clear hK K
     refine aI false rfl (fun hc => by cases hc) (fun _ => ?_)
     refine aB fun K hK => ?_
     refine aA rfl ?_
     simp only [RR, seval]
     refine hK _ _ ?_; clear hK K
     refine aI false rfl (fun hc => by cases hc) (fun _ => ?_)
     refine aB fun K hK => ?_
     refine aA rfl ?_
     simp only [RR, seval]
     refine hK _ _ ?_; clear hK K
     refine aI false rfl (fun hc => by cases hc) (fun _ => ?_)
     refine aL ?_; try simp only [RR]
     refine bG fun F1 M1 hfr hH => ?_
     have g0 := hfr 0
     have g3 := hfr 3
     have g4 := hfr 4
     have gr := hH r
     have gb3 := hH b3
     try simp only [hr, nr_b3, RR, seval] at g0 g3 g4 gr gb3
     have hM := funext hH
     have hR0 := (hR.new hn3 _).same hH
     have hk0 : bO r w vo vo H M1 := by rw [hM]; exact (bO.refl _ _ _ _).updN hn3 _
     have f0 := g0; clear g0
     have f3 := g3; clear g3
     have f4 := g4; clear g4
     have hr := gr; clear gr
     have hb3 := gb3; clear gb3
     clear hfr hH
     refine aB fun K hK => ?_
     refine aA rfl ?_
     simp only [f0, f3, hb3, hg0, RR, seval]
     refine gI (hVa _ hR0) (fun _ => trivial) fun x vo1 vl1 H1 ux hwv1 hne1 hvl1 hR1 hk1 => ?_
     have hr := hR1.r
     have hb3 := hR0.keep hb3 (by decide) (by decide) hk1
     simp only [RR, seval]
     refine hK _ _ ?_; clear hK K
     refine aJ ?_
     refine aB fun K hK => ?_
     refine aA rfl ?_
     simp only [f0, hr, RR, seval]
     refine hK _ _ ?_; clear hK K
     refine aI _ rfl (fun hc22 => ?_) (fun hc22 => ?_)
     ·obtain ⟨e1, s1, rfl⟩ := fO (o := r1) (by simpa using hc22)
      obtain rfl := Option.some.inj (show some (Rz.fin e1 s1) = some o from h)
      refine aB fun K hK => ?_
      refine aA rfl ?_
      simp only [RR, seval]
      refine hK _ _ ?_; clear hK K
      refine aP ?_; simp only [aV, aM, bE, RR, seval]
      exact aU.run ⟨0, vo1, vl1, rfl, by simp [cJ], (fun _ _ e => by cases e), hne1, hvl1, hR1, hk0.trans hk1⟩
     obtain ⟨x1, s1, rfl⟩ := fF (o := r1) hne1 (by simpa using hc22)
     obtain rfl := hwv1 _ _ rfl
     simp only [bindR] at h
     have hR1 : dR cx fu W r w s1 vo1 0 false vl1 H1 := hR1
     refine aL ?_; try simp only [RR]
     refine aJ ?_
     refine aB fun K hK => ?_
     refine aA rfl ?_
     simp only [f3, hb3, RR, seval]
     refine hK _ _ ?_; clear hK K
     refine aQ ?_
     refine aB fun K hK => ?_
     refine aA rfl ?_
     simp only [RR, seval]
     refine hK _ _ ?_; clear hK K
     refine aI false rfl (fun hc => by cases hc) (fun _ => ?_)
     refine aB fun K hK => ?_
     refine aA rfl ?_
     simp only [RR, seval]
     refine hK _ _ ?_; clear hK K
     refine aI false rfl (fun hc => by cases hc) (fun _ => ?_)
     refine aB fun K hK => ?_
     refine aA rfl ?_
     simp only [RR, seval]
     refine hK _ _ ?_; clear hK K
     refine aI true rfl (fun _ => ?_) (fun hc => by cases hc)
     refine aJ ?_
     refine aB fun K hK => ?_
     refine aA rfl ?_
     simp only [RR, seval]
     refine hK _ _ ?_; clear hK K
     refine aI _ rfl (fun hc32 => ?_) (fun hc32 => ?_)
     ·have hx0 : ¬ x = 0 := by simpa using hc32
      rw [if_pos (by simp [hx0])] at h
      cases h
      refine aB fun K hK => ?_
      refine aA rfl ?_
      simp only [RR, seval]
      refine hK _ _ ?_; clear hK K
      refine aP ?_; simp only [aV, aM, bE, RR, seval]
      exact aU.run ⟨1, vo1, vl1, rfl, by simp [cJ], (fun _ _ e => by cases e; simp [hx0]), (fun _ _ e => by cases e), hvl1, hR1, hk0.trans hk1⟩
     have hx0 : x = 0 := by simpa using hc32
     rw [if_neg (by simp [hx0])] at h
     obtain ⟨r2, h2⟩ : ∃ r2, fJ cx n d s1 = some r2 := by
      cases h2 : fJ cx n d s1 with
      | none => rw [h2] at h; cases h
      | some r2 => exact ⟨r2, rfl⟩
     rw [h2] at h
     refine aL ?_; try simp only [RR]
     refine aB fun K hK => ?_
     refine aA rfl ?_
     simp only [f0, f3, hb3, hg1, RR, seval]
     refine gI (hVb _ _ _ _ _ hvl1 hR1 h2) (fun _ => trivial) fun y vo2 vl2 H2 uy hwv2 hne2 hvl2 hR2 hk2 => ?_
     simp only [RR, seval]
     refine aO (tG _) ?_
     simp only [RR, seval]
     refine hK _ _ ?_; clear hK K
     have hend : ∃ w', (if (!decide (y = 0)) = true then (1 : Int) else 0) = w' ∧ cJ w' ∧ (∀ v s, o = .val v s → w' = v) ∧ (∀ e s, o = .fin e s → e ≠ 0) ∧ nU o = nU r2 ∧ o.st = r2.st := by
      refine ⟨_, rfl, by split <;> simp [cJ], ?_⟩
      cases r2 with
      | fin e1 s1 =>
        obtain rfl := Option.some.inj (show some (Rz.fin e1 s1) = some o from h)
        exact ⟨(fun _ _ e => by cases e), hne2, rfl, rfl⟩
      | val x1 s1 =>
        obtain rfl := hwv2 _ _ rfl
        obtain rfl := Option.some.inj (show some (Rz.val (if y = 0 then (0 : Int) else 1) s1) = some o from h)
        exact ⟨(fun v s e => by cases e; by_cases hy : y = 0 <;> simp [hy]), (fun _ _ e => by cases e), rfl, rfl⟩
     obtain ⟨w', hw', uw', g1, g2, g3, g4⟩ := hend
     rw [← g3, ← g4] at hR2
     refine aP ?_; simp only [aV, aM, bE, RR, seval]
     exact aU.run ⟨_, vo2, vl2, by rw [hw'], uw', g1, g2, hvl2, hR2, (hk0.trans hk1).trans hk2⟩
end
end Go.Proofs.YtnfbbjhdflhmjaaDoor
