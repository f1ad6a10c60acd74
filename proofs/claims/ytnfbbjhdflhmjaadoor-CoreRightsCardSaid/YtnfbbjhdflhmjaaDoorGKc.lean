/- Chapter 19, the program's: an expression's value. -/
import Derived.Test.YtnfbbjhdflhmjaaDoorGKb
set_option linter.unusedSimpArgs false
set_option linter.unusedVariables false
set_option maxRecDepth 10000
namespace Go.Proofs.YtnfbbjhdflhmjaaDoor
open Go.Al
def kL (p : Option Int) : AV := .tup [.int .u32 (p.getD 0), .bool p.isSome]
def kM (p : Option Int) : Prop := cJ (p.getD 0)
structure Ou (cx : Kx) (W r w : Nat) (n : Nat) : Prop where
 V : ∀ (i : Nat) (e : CE) (st : RS) (vo : AV) (H : Hp) (o : Rz Int), e.ok → Hv (W : Int) cx.funs i e → eN cx W r w st vo H → fJ cx n e st = some o →
   jN cO 54 [.ptr 7 r 0 0, .ipt e.row 0] H (kP cx W r w vo H (fun x => .int .u32 x) cJ o)
 C : ∀ (i : Nat) (a : Int) (f : CF) (l : List CE) (st : RS) (vo : AV) (H : Hp) (o : Rz Int), lS l → lH (W : Int) cx.funs i l → 0 ≤ a → cx.funs[a.toNat]? = some f → f.params = l.length → eN cx W r w st vo H → oL cx n a l st = some o →
   jN cO 58 [.ptr 7 r 0 0, .int .i64 a, .isl 6 (l.map CE.row)] H (kP cx W r w vo H (fun x => .int .u32 x) cJ o)
 S : ∀ (i : Nat) (e : CS) (st : RS) (vo : AV) (H : Hp) (o : Rz (Option Int)), e.ok → Cy (W : Int) cx.funs i e → eN cx W r w st vo H → nR cx n e st = some o →
   jN cO 37 [.ptr 7 r 0 0, .ipt e.row 0] H (kP cx W r w vo H kL kM o)
 L : ∀ (i : Nat) (l : List CS) (st : RS) (vo : AV) (H : Hp) (o : Rz (Option Int)), oV l → lO (W : Int) cx.funs i l → eN cx W r w st vo H → gX cx n l st = some o →
   jN cO 23 [.ptr 7 r 0 0, .isl 6 (l.map CS.row)] H (kP cx W r w vo H kL kM o)
 W : ∀ (i : Nat) (e : CS) (c : CE) (st : RS) (vo : AV) (H : Hp) (o : Rz (Option Int)), e.ok → Cy (W : Int) cx.funs i e → e.es[0]? = some c → eN cx W r w st vo H → oK cx n c e.thn st = some o →
   jN cO 57 [.ptr 7 r 0 0, .ipt e.row 0] H (kP cx W r w vo H kL kM o)
theorem lD {l : List CE} {i : Nat} {x : CE} (h : l[i]? = some x) : (l.map CE.row)[i]? = some x.row := by rw [cD, h]; rfl
theorem Ye {l : List CS} {i : Nat} {x : CS} (h : l[i]? = some x) : (l.map CS.row)[i]? = some x.row := by rw [cD, h]; rfl
theorem fQ {l : List Int} {i : Nat} {x : Int} (h : l[i]? = some x) : (l.map fE)[i]? = some [.int .u32 x] := by rw [cD, h]; rfl
theorem nP {a : Int} {st : RS} {x : Int} (h : oW a st = some x) : 0 ≤ a ∧ a < (st.vars.length : Int) ∧ st.vars[a.toNat]? = some x := by
 unfold oW at h
 by_cases h0 : 0 ≤ a
 ·rw [if_pos h0] at h
  have := (bM.1 h).1
  exact ⟨h0, by omega, h⟩
 rw [if_neg h0] at h; cases h
theorem Xu (b : Bool) : (if b = true then (1 : Int) else 0) = if b = true then 1 else 0 := rfl
section
variable {cx : Kx} {W r w : Nat} {n : Nat}
set_option maxHeartbeats 2000000 in
theorem Hz (ih : Ou cx W r w n) (hx : tW cx W) (i : Nat) (e : CE) (st : RS) (vo : AV) (H : Hp) (o : Rz Int) (he : e.ok) (hw : Hv (W : Int) cx.funs i e) (hR : eN cx W r w st vo H) (h : fJ cx (n + 1) e st = some o) :
  jN cO 54 [.ptr 7 r 0 0, .ipt e.row 0] H (kP cx W r w vo H (fun x => .int .u32 x) cJ o) := by
 obtain ⟨k, op, m, a, z, l⟩ := e
 have hr := hR.r
 have hnum := he.num
 have hkids := he.kids
 simp only [CE.num, CE.kids] at hnum hkids
 simp only [fJ] at h
 simp only [Hv] at hw
 obtain ⟨_, w2, w3, w4, w7, w6, wl⟩ := hw
 rw [CE.row_eq]
 simp only [CE.kind, CE.op, CE.num, CE.slot, CE.size, CE.kids]
 have kidw : ∀ {j : Nat} {b : CE}, l[j]? = some b → Hv (W : Int) cx.funs i b := fun hj => (fX wl hj).1
 have kidok : ∀ {j : Nat} {b : CE}, l[j]? = some b → b.ok := fun hj => hkids.all _ (bN hj)
 have hW := hx.wl
 by_cases k1 : k = 1
 ·subst k1
  simp only [if_true] at h
  cases h
  refine bD 143 [.tmp 4] Tryd.func54 rfl rfl rfl rfl ?_
  refine aB fun K hK => ?_
  refine aA rfl ?_
  simp only [RR, seval]
  refine hK _ _ ?_; clear hK K
  refine aJ ?_
  refine aB fun K hK => ?_
  refine aA rfl ?_
  simp only [RR, seval]
  refine hK _ _ ?_; clear hK K
  refine aQ ?_
  refine aB fun K hK => ?_
  refine aA rfl ?_
  simp only [RR, seval]
  refine hK _ _ ?_; clear hK K
  refine aI true rfl (fun _ => ?_) (fun hc => by cases hc)
  refine aB fun K hK => ?_
  refine aA rfl ?_
  simp only [RR, seval]
  refine hK _ _ ?_; clear hK K
  refine aP ?_; simp only [aV, aM, bE, RR, seval]
  exact aU.run ⟨vo, ⟨rfl, hnum⟩, hR, bO.refl _ _ _ _⟩
  skip
 by_cases k2 : k = 2
 ·subst k2
  simp only [show ¬ (2 : Int) = 1 by decide, if_false, if_true, aZ] at h
  obtain ⟨x, hg, rfl⟩ := h
  obtain ⟨z0, zl, hg⟩ := nP hg
  have hgx := fQ hg
  have hux := hR.uv x (bN hg)
  have hw := hR.v
  refine bD 143 [.tmp 4] Tryd.func54 rfl rfl rfl rfl ?_
  refine aB fun K hK => ?_
  refine aA rfl ?_
  simp only [RR, seval]
  refine hK _ _ ?_; clear hK K
  refine aJ ?_
  refine aB fun K hK => ?_
  refine aA rfl ?_
  simp only [RR, seval]
  refine hK _ _ ?_; clear hK K
  refine aQ ?_
  refine aB fun K hK => ?_
  refine aA rfl ?_
  simp only [RR, seval]
  refine hK _ _ ?_; clear hK K
  refine aI false rfl (fun hc => by cases hc) (fun _ => ?_)
  refine aB fun K hK => ?_
  refine aA rfl ?_
  simp only [RR, seval]
  refine hK _ _ ?_; clear hK K
  refine aI true rfl (fun _ => ?_) (fun hc => by cases hc)
  refine aB fun K hK => ?_
  refine bC (fun x => x ≠ r ∧ x ≠ w) [(0, 3), (1, 3), (2, 3), (3, 1), (4, 3), (5, 3), (6, 3), (7, 1), (8, 3), (9, 1), (10, 3)] [] dB (by kernel_rfl) rfl rfl ?_
  simp only [bW, hr, hw, z0, zl, hgx, RR, seval]
  refine hK _ _ ?_; clear hK K
  refine aP ?_; simp only [aV, aM, bE, RR, seval]
  exact aU.run ⟨vo, ⟨rfl, hux⟩, hR, bO.refl _ _ _ _⟩
  skip
 by_cases k3 : k = 3
 ·subst k3
  simp only [show ¬ (3 : Int) = 1 by decide, show ¬ (3 : Int) = 2 by decide, if_false, if_true] at h
  obtain ⟨a0, a1, a2, a3, a4⟩ := w3 rfl
  cases hl0 : l[0]? with
  | none => rw [hl0] at h; cases h
  | some b =>
    simp only [hl0] at h
    have hg0 := lD hl0
    cases h1 : fJ cx n b st with
    | none => rw [h1] at h; cases h
    | some r1 =>
      rw [h1] at h
      refine bD 143 [.tmp 4] Tryd.func54 rfl rfl rfl rfl ?_
      refine aB fun K hK => ?_
      refine aA rfl ?_
      simp only [RR, seval]
      refine hK _ _ ?_; clear hK K
      refine aJ ?_
      refine aB fun K hK => ?_
      refine aA rfl ?_
      simp only [RR, seval]
      refine hK _ _ ?_; clear hK K
      refine aQ ?_
      refine aB fun K hK => ?_
      refine aA rfl ?_
      simp only [RR, seval]
      refine hK _ _ ?_; clear hK K
      refine aI false rfl (fun hc => by cases hc) (fun _ => ?_)
      refine aB fun K hK => ?_
      refine aA rfl ?_
      simp only [RR, seval]
      refine hK _ _ ?_; clear hK K
      refine aI false rfl (fun hc => by cases hc) (fun _ => ?_)
      refine aB fun K hK => ?_
      refine aA rfl ?_
      simp only [RR, seval]
      refine hK _ _ ?_; clear hK K
      refine aI true rfl (fun _ => ?_) (fun hc => by cases hc)
      refine aB fun K hK => ?_
      refine aA rfl ?_
      simp only [hg0, RR, seval]
      refine eK (ih.V i b st vo H r1 (kidok hl0) (kidw hl0) hR h1) (fun _ => trivial) (fun e s vo1 H1 e1 hR1 hk1 => by subst e1; obtain rfl := Option.some.inj (show some (Rz.fin e s) = some o from h); simp only [cL, cU, cN]; exact ⟨vo1, rfl, hR1, hk1⟩) fun x s1 vo1 H1 e1 ux hR1 hk1 => ?_
      subst e1
      simp only [bindR] at h
      have hr := hR1.r
      simp only [RR, seval]
      refine hK _ _ ?_; clear hK K
      refine aB fun K hK => ?_
      refine bC (fun x => x ≠ r) [(0, 3), (1, 3), (2, 3), (3, 0), (4, 3), (5, 3), (6, 3), (7, 3), (8, 1), (9, 3), (10, 3), (11, 3), (12, 1), (13, 3), (14, 1), (15, 3), (16, 1), (17, 3)] [] dB (by kernel_rfl) rfl rfl ?_
      simp only [bW, dJ, hr, RR, seval]
      by_cases hxz : x < z
      rotate_left
      ·unfold He at h
       rw [if_neg hxz] at h
       obtain rfl := Option.some.inj (show some (Rz.fin 3 s1) = some o from h)
       refine Mf ux ⟨by omega, a2⟩ hxz ?_
       simp only [cL, cU, cN]
       exact ⟨vo1, rfl, hR1, hk1⟩
      unfold He at h
      rw [if_pos hxz] at h
      simp only [aZ] at h
      obtain ⟨y, hy, rfl⟩ := h
      obtain ⟨z0, zl, hy⟩ := nP hy
      have hgy := fQ hy
      have uy := hR1.uv y (bN hy)
      have hw := hR1.v
      refine aO (Sw _ ux ⟨by omega, a2⟩ ⟨a0, by omega⟩ hxz) ?_
      simp only [z0, zl, hw, hgy, RR, seval]
      refine hK _ _ ?_; clear hK K
      refine aP ?_; simp only [aV, aM, bE, RR, seval]
      exact aU.run ⟨vo1, ⟨rfl, uy⟩, hR1, hk1⟩
      skip
 by_cases k4 : k = 4
 ·subst k4
  simp only [show ¬ (4 : Int) = 1 by decide, show ¬ (4 : Int) = 2 by decide, show ¬ (4 : Int) = 3 by decide, if_false, if_true] at h
  obtain ⟨z0, _, f, hf, hp⟩ := w4 rfl
  have hcall := ih.C i a f l st vo H o hkids wl z0 hf hp hR h
  refine bD 143 [.tmp 4] Tryd.func54 rfl rfl rfl rfl ?_
  refine aB fun K hK => ?_
  refine aA rfl ?_
  simp only [RR, seval]
  refine hK _ _ ?_; clear hK K
  refine aJ ?_
  refine aB fun K hK => ?_
  refine aA rfl ?_
  simp only [RR, seval]
  refine hK _ _ ?_; clear hK K
  refine aQ ?_
  refine aB fun K hK => ?_
  refine aA rfl ?_
  simp only [RR, seval]
  refine hK _ _ ?_; clear hK K
  refine aI false rfl (fun hc => by cases hc) (fun _ => ?_)
  refine aB fun K hK => ?_
  refine aA rfl ?_
  simp only [RR, seval]
  refine hK _ _ ?_; clear hK K
  refine aI false rfl (fun hc => by cases hc) (fun _ => ?_)
  refine aB fun K hK => ?_
  refine aA rfl ?_
  simp only [RR, seval]
  refine hK _ _ ?_; clear hK K
  refine aI false rfl (fun hc => by cases hc) (fun _ => ?_)
  refine aB fun K hK => ?_
  refine aA rfl ?_
  simp only [RR, seval]
  refine hK _ _ ?_; clear hK K
  refine aI true rfl (fun _ => ?_) (fun hc => by cases hc)
  refine aB fun K hK => ?_
  refine bC (fun _ => True) [(0, 3), (1, 3), (2, 3), (3, 3), (4, 1), (5, 3), (6, 3), (7, 3), (8, 1), (9, 1), (10, 3)] [] dB (by kernel_rfl) rfl rfl ?_
  simp only [bW, RR, seval]
  refine eK hcall (fun _ => trivial) (fun e s vo1 H1 e1 hR1 hk1 => by subst e1; simp only [cL, cU, cN]; exact ⟨vo1, rfl, hR1, hk1⟩) fun x s1 vo1 H1 e1 ux hR1 hk1 => ?_
  subst e1
  simp only [RR, seval]
  refine hK _ _ ?_; clear hK K
  refine aP ?_; simp only [aV, aM, bE, RR, seval]
  exact aU.run ⟨vo1, ⟨rfl, ux⟩, hR1, hk1⟩
  skip
 by_cases k5 : k = 5
 ·subst k5
  simp only [show ¬ (5 : Int) = 1 by decide, show ¬ (5 : Int) = 2 by decide, show ¬ (5 : Int) = 3 by decide, show ¬ (5 : Int) = 4 by decide, if_false, if_true, Option.some.injEq] at h
  have hget := Uf hx hR
  rw [h] at hget
  refine bD 143 [.tmp 4] Tryd.func54 rfl rfl rfl rfl ?_
  refine aB fun K hK => ?_
  refine aA rfl ?_
  simp only [RR, seval]
  refine hK _ _ ?_; clear hK K
  refine aJ ?_
  refine aB fun K hK => ?_
  refine aA rfl ?_
  simp only [RR, seval]
  refine hK _ _ ?_; clear hK K
  refine aQ ?_
  refine aB fun K hK => ?_
  refine aA rfl ?_
  simp only [RR, seval]
  refine hK _ _ ?_; clear hK K
  refine aI false rfl (fun hc => by cases hc) (fun _ => ?_)
  refine aB fun K hK => ?_
  refine aA rfl ?_
  simp only [RR, seval]
  refine hK _ _ ?_; clear hK K
  refine aI false rfl (fun hc => by cases hc) (fun _ => ?_)
  refine aB fun K hK => ?_
  refine aA rfl ?_
  simp only [RR, seval]
  refine hK _ _ ?_; clear hK K
  refine aI false rfl (fun hc => by cases hc) (fun _ => ?_)
  refine aB fun K hK => ?_
  refine aA rfl ?_
  simp only [RR, seval]
  refine hK _ _ ?_; clear hK K
  refine aI false rfl (fun hc => by cases hc) (fun _ => ?_)
  refine aB fun K hK => ?_
  refine aA rfl ?_
  simp only [RR, seval]
  refine hK _ _ ?_; clear hK K
  refine aI true rfl (fun _ => ?_) (fun hc => by cases hc)
  refine aB fun K hK => ?_
  refine aA rfl ?_
  simp only [RR, seval]
  refine eK hget (fun _ => trivial) (fun e s vo1 H1 e1 hR1 hk1 => by subst e1; simp only [cL, cU, cN]; exact ⟨vo1, rfl, hR1, hk1⟩) fun x s1 vo1 H1 e1 ux hR1 hk1 => ?_
  subst e1
  simp only [RR, seval]
  refine hK _ _ ?_; clear hK K
  refine aP ?_; simp only [aV, aM, bE, RR, seval]
  exact aU.run ⟨vo1, ⟨rfl, ux⟩, hR1, hk1⟩
  skip
 simp only [if_neg k1, if_neg k2, if_neg k3, if_neg k4, if_neg k5] at h
 cases hl0 : l[0]? with
 | none => rw [hl0] at h; cases h
 | some b =>
   simp only [hl0] at h
   have hg0 := lD hl0
   by_cases k7 : k = 7
   ·subst k7
    simp only [if_true] at h
    cases h1 : fJ cx n b st with
    | none => rw [h1] at h; cases h
    | some r1 =>
      rw [h1] at h
      refine bD 143 [.tmp 4] Tryd.func54 rfl rfl rfl rfl ?_
      refine aB fun K hK => ?_
      refine aA rfl ?_
      simp only [RR, seval]
      refine hK _ _ ?_; clear hK K
      refine aJ ?_
      refine aB fun K hK => ?_
      refine aA rfl ?_
      simp only [RR, seval]
      refine hK _ _ ?_; clear hK K
      refine aQ ?_
      refine aB fun K hK => ?_
      refine aA rfl ?_
      simp only [RR, seval]
      refine hK _ _ ?_; clear hK K
      refine aI false rfl (fun hc => by cases hc) (fun _ => ?_)
      refine aB fun K hK => ?_
      refine aA rfl ?_
      simp only [RR, seval]
      refine hK _ _ ?_; clear hK K
      refine aI false rfl (fun hc => by cases hc) (fun _ => ?_)
      refine aB fun K hK => ?_
      refine aA rfl ?_
      simp only [RR, seval]
      refine hK _ _ ?_; clear hK K
      refine aI false rfl (fun hc => by cases hc) (fun _ => ?_)
      refine aB fun K hK => ?_
      refine aA rfl ?_
      simp only [RR, seval]
      refine hK _ _ ?_; clear hK K
      refine aI false rfl (fun hc => by cases hc) (fun _ => ?_)
      refine aB fun K hK => ?_
      refine aA rfl ?_
      simp only [RR, seval]
      refine hK _ _ ?_; clear hK K
      refine aI false rfl (fun hc => by cases hc) (fun _ => ?_)
      refine aB fun K hK => ?_
      refine aA rfl ?_
      simp only [RR, seval]
      refine hK _ _ ?_; clear hK K
      refine aI false rfl (fun hc => by cases hc) (fun _ => ?_)
      refine aB fun K hK => ?_
      refine aA rfl ?_
      simp only [RR, seval]
      refine hK _ _ ?_; clear hK K
      refine aI true rfl (fun _ => ?_) (fun hc => by cases hc)
      refine aB fun K hK => ?_
      refine aA rfl ?_
      simp only [hg0, RR, seval]
      refine eK (ih.V i b st vo H r1 (kidok hl0) (kidw hl0) hR h1) (fun _ => trivial) (fun e s vo1 H1 e1 hR1 hk1 => by subst e1; obtain rfl := Option.some.inj (show some (Rz.fin e s) = some o from h); simp only [cL, cU, cN]; exact ⟨vo1, rfl, hR1, hk1⟩) fun x s1 vo1 H1 e1 ux hR1 hk1 => ?_
      subst e1
      simp only [bindR] at h
      cases h
      simp only [RR, seval]
      refine aO (sZ _) ?_
      simp only [RR, seval]
      refine hK _ _ ?_; clear hK K
      refine aP ?_; simp only [aV, aM, bE, RR, seval]
      exact aU.run ⟨vo1, ⟨by by_cases hz : x = 0 <;> simp [hz], by by_cases hz : x = 0 <;> simp [hz, cJ]⟩, hR1, hk1⟩
      skip
   rw [if_neg k7] at h
   cases hl1 : l[1]? with
   | none => rw [hl1] at h; cases h
   | some d =>
     simp only [hl1] at h
     have hg1 := lD hl1
     by_cases k6 : k = 6
     ·subst k6
      simp only [if_true] at h
      cases h1 : fJ cx n b st with
      | none => rw [h1] at h; cases h
      | some r1 =>
        rw [h1] at h
        refine bD 143 [.tmp 4] Tryd.func54 rfl rfl rfl rfl ?_
        refine aB fun K hK => ?_
        refine aA rfl ?_
        simp only [RR, seval]
        refine hK _ _ ?_; clear hK K
        refine aJ ?_
        refine aB fun K hK => ?_
        refine aA rfl ?_
        simp only [RR, seval]
        refine hK _ _ ?_; clear hK K
        refine aQ ?_
        refine aB fun K hK => ?_
        refine aA rfl ?_
        simp only [RR, seval]
        refine hK _ _ ?_; clear hK K
        refine aI false rfl (fun hc => by cases hc) (fun _ => ?_)
        refine aB fun K hK => ?_
        refine aA rfl ?_
        simp only [RR, seval]
        refine hK _ _ ?_; clear hK K
        refine aI false rfl (fun hc => by cases hc) (fun _ => ?_)
        refine aB fun K hK => ?_
        refine aA rfl ?_
        simp only [RR, seval]
        refine hK _ _ ?_; clear hK K
        refine aI false rfl (fun hc => by cases hc) (fun _ => ?_)
        refine aB fun K hK => ?_
        refine aA rfl ?_
        simp only [RR, seval]
        refine hK _ _ ?_; clear hK K
        refine aI false rfl (fun hc => by cases hc) (fun _ => ?_)
        refine aB fun K hK => ?_
        refine aA rfl ?_
        simp only [RR, seval]
        refine hK _ _ ?_; clear hK K
        refine aI false rfl (fun hc => by cases hc) (fun _ => ?_)
        refine aB fun K hK => ?_
        refine aA rfl ?_
        simp only [RR, seval]
        refine hK _ _ ?_; clear hK K
        refine aI true rfl (fun _ => ?_) (fun hc => by cases hc)
        refine aB fun K hK => ?_
        refine aA rfl ?_
        simp only [hg0, RR, seval]
        refine eK (ih.V i b st vo H r1 (kidok hl0) (kidw hl0) hR h1) (fun _ => trivial) (fun e s vo1 H1 e1 hR1 hk1 => by subst e1; obtain rfl := Option.some.inj (show some (Rz.fin e s) = some o from h); simp only [cL, cU, cN]; exact ⟨vo1, rfl, hR1, hk1⟩) fun x s1 vo1 H1 e1 ux hR1 hk1 => ?_
        subst e1
        simp only [bindR] at h
        have hr := hR1.r
        obtain ⟨r2, h2⟩ : ∃ r2, fJ cx n d s1 = some r2 := by
         cases h2 : fJ cx n d s1 with
         | none => rw [h2] at h; cases h
         | some r2 => exact ⟨r2, rfl⟩
        rw [h2] at h
        simp only [RR, seval]
        refine hK _ _ ?_; clear hK K
        refine aB fun K hK => ?_
        refine aA rfl ?_
        simp only [hg1, RR, seval]
        refine eK (ih.V i d s1 vo1 H1 r2 (kidok hl1) (kidw hl1) hR1 h2) (fun _ => trivial) (fun e s vo2 H2 e1 hR2 hk2 => by subst e1; obtain rfl := Option.some.inj (show some (Rz.fin e s) = some o from h); simp only [cL, cU, cN]; exact ⟨vo2, rfl, hR2, hk1.trans hk2⟩) fun y s2 vo2 H2 e1 uy hR2 hk2 => ?_
        subst e1
        simp only [] at h
        have hr := hR2.r
        have hA := Oy op x y uy
        have uA := yK op ux uy
        generalize dA op x y = q at hA uA h
        obtain ⟨q1, q2⟩ := q
        simp only [RR, seval]
        refine hK _ _ ?_; clear hK K
        refine aB fun K hK => ?_
        refine aA rfl ?_
        simp only [RR, seval]
        refine aO (hA) ?_
        simp only [RR, seval]
        refine hK _ _ ?_; clear hK K
        refine aJ ?_
        refine aB fun K hK => ?_
        refine aA rfl ?_
        simp only [RR, seval]
        refine hK _ _ ?_; clear hK K
        refine aI _ rfl (fun hc17 => ?_) (fun hc17 => ?_)
        ·rw [if_neg (show ¬ q2 = 0 by simpa using hc17)] at h
         cases h
         refine aA rfl ?_
         simp only [RR, seval]
         simp only [cL, cU, cN]
         exact ⟨vo2, rfl, hR2, hk1.trans hk2⟩
        rw [if_pos (show q2 = 0 by simpa using hc17)] at h
        cases h
        refine aL ?_; try simp only [RR]
        refine aB fun K hK => ?_
        refine aA rfl ?_
        simp only [RR, seval]
        refine hK _ _ ?_; clear hK K
        refine aP ?_; simp only [aV, aM, bE, RR, seval]
        exact aU.run ⟨vo2, ⟨rfl, uA⟩, hR2, hk1.trans hk2⟩
        skip
     rw [if_neg k6] at h
     cases h1 : fJ cx n b st with
     | none => rw [h1] at h; cases h
     | some r1 =>
       rw [h1] at h
       have hk9 : decide (k = 9) = !decide (k = 8) := by
        rcases (w6 k1 k2 k3 k4 k5 k7).2 with e | rfl | rfl
        ·exact absurd e k6
        ·rfl
        rfl
       refine bD 143 [.tmp 4] Tryd.func54 rfl rfl rfl rfl ?_
       refine aB fun K hK => ?_
       refine aA rfl ?_
       simp only [RR, seval]
       refine hK _ _ ?_; clear hK K
       refine aJ ?_
       refine aB fun K hK => ?_
       refine aA rfl ?_
       simp only [RR, seval]
       refine hK _ _ ?_; clear hK K
       refine aQ ?_
       refine aB fun K hK => ?_
       refine aA rfl ?_
       simp only [k1, RR, seval]
       refine hK _ _ ?_; clear hK K
       refine aI false rfl (fun hc => by cases hc) (fun _ => ?_)
       refine aB fun K hK => ?_
       refine aA rfl ?_
       simp only [k2, RR, seval]
       refine hK _ _ ?_; clear hK K
       refine aI false rfl (fun hc => by cases hc) (fun _ => ?_)
       refine aB fun K hK => ?_
       refine aA rfl ?_
       simp only [k3, RR, seval]
       refine hK _ _ ?_; clear hK K
       refine aI false rfl (fun hc => by cases hc) (fun _ => ?_)
       refine aB fun K hK => ?_
       refine aA rfl ?_
       simp only [k4, RR, seval]
       refine hK _ _ ?_; clear hK K
       refine aI false rfl (fun hc => by cases hc) (fun _ => ?_)
       refine aB fun K hK => ?_
       refine aA rfl ?_
       simp only [k5, RR, seval]
       refine hK _ _ ?_; clear hK K
       refine aI false rfl (fun hc => by cases hc) (fun _ => ?_)
       refine aB fun K hK => ?_
       refine aA rfl ?_
       simp only [k6, RR, seval]
       refine hK _ _ ?_; clear hK K
       refine aI false rfl (fun hc => by cases hc) (fun _ => ?_)
       refine aB fun K hK => ?_
       refine aA rfl ?_
       simp only [k7, RR, seval]
       refine hK _ _ ?_; clear hK K
       refine aI false rfl (fun hc => by cases hc) (fun _ => ?_)
       refine aL ?_; try simp only [RR]
       refine aB fun K hK => ?_
       refine aA rfl ?_
       simp only [hg0, RR, seval]
       refine eK (ih.V i b st vo H r1 (kidok hl0) (kidw hl0) hR h1) (fun _ => trivial) (fun e s vo1 H1 e1 hR1 hk1 => by subst e1; obtain rfl := Option.some.inj (show some (Rz.fin e s) = some o from h); simp only [cL, cN]; exact ⟨vo1, rfl, hR1, hk1⟩) fun x s1 vo1 H1 e1 ux hR1 hk1 => ?_
       subst e1
       simp only [bindR] at h
       have hr := hR1.r
       simp only [RR, seval]
       refine hK _ _ ?_; clear hK K
       refine aJ ?_
       refine aB fun K hK => ?_
       refine aA rfl ?_
       simp only [hk9, RR, seval]
       refine hK _ _ ?_; clear hK K
       refine aI _ rfl (fun hc23 => ?_) (fun hc23 => ?_)
       ·rw [if_pos (show decide (x = 0) = decide (k = 8) by simpa using hc23)] at h
        cases h
        refine aB fun K hK => ?_
        refine aA rfl ?_
        simp only [RR, seval]
        refine aO (sZ _) ?_
        simp only [RR, seval]
        refine hK _ _ ?_; clear hK K
        refine aP ?_; simp only [aV, aM, bE, RR, seval]
        exact aU.run ⟨vo1, ⟨by by_cases hz : x = 0 <;> simp [hz], by by_cases hz : x = 0 <;> simp [hz, cJ]⟩, hR1, hk1⟩
       rw [if_neg (show ¬ decide (x = 0) = decide (k = 8) by simpa using hc23)] at h
       refine aL ?_; try simp only [RR]
       refine aB fun K hK => ?_
       refine aA rfl ?_
       simp only [hg1, RR, seval]
       obtain ⟨r2, h2⟩ : ∃ r2, fJ cx n d s1 = some r2 := by
        cases h2 : fJ cx n d s1 with
        | none => rw [h2] at h; cases h
        | some r2 => exact ⟨r2, rfl⟩
       rw [h2] at h
       refine eK (ih.V i d s1 vo1 H1 r2 (kidok hl1) (kidw hl1) hR1 h2) (fun _ => trivial) (fun e s vo2 H2 e1 hR2 hk2 => by subst e1; obtain rfl := Option.some.inj (show some (Rz.fin e s) = some o from h); simp only [cL, cN]; exact ⟨vo2, rfl, hR2, hk1.trans hk2⟩) fun y s2 vo2 H2 e1 uy hR2 hk2 => ?_
       subst e1
       simp only [] at h
       cases h
       simp only [RR, seval]
       refine aO (sZ _) ?_
       simp only [RR, seval]
       refine hK _ _ ?_; clear hK K
       refine aP ?_; simp only [aV, aM, bE, RR, seval]
       exact aU.run ⟨vo2, ⟨by by_cases hz : y = 0 <;> simp [hz], by by_cases hz : y = 0 <;> simp [hz, cJ]⟩, hR2, hk1.trans hk2⟩
end
end Go.Proofs.YtnfbbjhdflhmjaaDoor
