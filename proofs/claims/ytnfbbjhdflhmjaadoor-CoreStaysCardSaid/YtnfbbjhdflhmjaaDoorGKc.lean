/- Chapter 19, the program's: an expression's value. -/
import Derived.Test.YtnfbbjhdflhmjaaDoorGKb
set_option linter.unusedSimpArgs false
set_option linter.unusedVariables false
set_option maxRecDepth 10000
namespace Go.Proofs.YtnfbbjhdflhmjaaDoor
open Go.Al
def tellV (p : Option Int) : AV := .tup [.int .u32 (p.getD 0), .bool p.isSome]
def tellU (p : Option Int) : Prop := u32R (p.getD 0)
structure PrgK (cx : Kx) (W r w : Nat) (n : Nat) : Prop where
 V : ∀ (i : Nat) (e : CE) (st : RS) (vo : AV) (H : Hp) (o : Rz Int), e.ok → wkE (W : Int) cx.funs i e → RunK cx W r w st vo H → kvE cx n e st = some o →
   Con env 54 [.ptr 7 r 0 0, .ipt e.row 0] H (postG cx W r w vo H (fun x => .int .u32 x) u32R o)
 C : ∀ (i : Nat) (a : Int) (f : CF) (l : List CE) (st : RS) (vo : AV) (H : Hp) (o : Rz Int), okCE l → wkEs (W : Int) cx.funs i l → 0 ≤ a → cx.funs[a.toNat]? = some f → f.params = l.length → RunK cx W r w st vo H → kvC cx n a l st = some o →
   Con env 58 [.ptr 7 r 0 0, .int .i64 a, .isl 6 (l.map CE.row)] H (postG cx W r w vo H (fun x => .int .u32 x) u32R o)
 S : ∀ (i : Nat) (e : CS) (st : RS) (vo : AV) (H : Hp) (o : Rz (Option Int)), e.ok → wkS (W : Int) cx.funs i e → RunK cx W r w st vo H → kvS cx n e st = some o →
   Con env 37 [.ptr 7 r 0 0, .ipt e.row 0] H (postG cx W r w vo H tellV tellU o)
 L : ∀ (i : Nat) (l : List CS) (st : RS) (vo : AV) (H : Hp) (o : Rz (Option Int)), okCS l → wkSs (W : Int) cx.funs i l → RunK cx W r w st vo H → kvL cx n l st = some o →
   Con env 23 [.ptr 7 r 0 0, .isl 6 (l.map CS.row)] H (postG cx W r w vo H tellV tellU o)
 W : ∀ (i : Nat) (e : CS) (c : CE) (st : RS) (vo : AV) (H : Hp) (o : Rz (Option Int)), e.ok → wkS (W : Int) cx.funs i e → e.es[0]? = some c → RunK cx W r w st vo H → kvW cx n c e.thn st = some o →
   Con env 57 [.ptr 7 r 0 0, .ipt e.row 0] H (postG cx W r w vo H tellV tellU o)
theorem CE_get {l : List CE} {i : Nat} {x : CE} (h : l[i]? = some x) : (l.map CE.row)[i]? = some x.row := by rw [List.getElem?_map, h]; rfl
theorem CS_get {l : List CS} {i : Nat} {x : CS} (h : l[i]? = some x) : (l.map CS.row)[i]? = some x.row := by rw [List.getElem?_map, h]; rfl
theorem rowU_get {l : List Int} {i : Nat} {x : Int} (h : l[i]? = some x) : (l.map rowU)[i]? = some [.int .u32 x] := by rw [List.getElem?_map, h]; rfl
theorem lookC_some {a : Int} {st : RS} {x : Int} (h : lookC a st = some x) : 0 ≤ a ∧ a < (st.vars.length : Int) ∧ st.vars[a.toNat]? = some x := by
 unfold lookC at h
 by_cases h0 : 0 ≤ a
 ·rw [if_pos h0] at h
  have := (List.getElem?_eq_some_iff.1 h).1
  exact ⟨h0, by omega, h⟩
 ·rw [if_neg h0] at h; cases h
theorem bool_ite01 (b : Bool) : (if b = true then (1 : Int) else 0) = if b = true then 1 else 0 := rfl
section
variable {cx : Kx} {W r w : Nat} {n : Nat}
set_option maxHeartbeats 2000000 in
theorem value_step (ih : PrgK cx W r w n) (hx : KxOk cx W) (i : Nat) (e : CE) (st : RS) (vo : AV) (H : Hp) (o : Rz Int) (he : e.ok) (hw : wkE (W : Int) cx.funs i e) (hR : RunK cx W r w st vo H) (h : kvE cx (n + 1) e st = some o) :
  Con env 54 [.ptr 7 r 0 0, .ipt e.row 0] H (postG cx W r w vo H (fun x => .int .u32 x) u32R o) := by
 obtain ⟨k, op, m, a, z, l⟩ := e
 have hr := hR.r
 have hnum := he.num
 have hkids := he.kids
 simp only [CE.num, CE.kids] at hnum hkids
 simp only [kvE] at h
 simp only [wkE] at hw
 obtain ⟨_, w2, w3, w4, w7, w6, wl⟩ := hw
 rw [CE.row_eq]
 simp only [CE.kind, CE.op, CE.num, CE.slot, CE.size, CE.kids]
 have kidw : ∀ {j : Nat} {b : CE}, l[j]? = some b → wkE (W : Int) cx.funs i b := fun hj => (wkEs_get wl hj).1
 have kidok : ∀ {j : Nat} {b : CE}, l[j]? = some b → b.ok := fun hj => hkids.all _ (List.mem_of_getElem? hj)
 have hW := hx.wl
 by_cases k1 : k = 1
 ·subst k1
  simp only [if_true] at h
  cases h
  refine con_of 143 [.tmp 4] Tryd.func54 rfl rfl rfl rfl ?_
  refine awp_seq_k fun K hK => ?_
  refine awp_region rfl ?_
  simp only [RR, seval]
  refine hK _ _ ?_; clear hK K
  refine awp_seq ?_
  refine awp_seq_k fun K hK => ?_
  refine awp_region rfl ?_
  simp only [RR, seval]
  refine hK _ _ ?_; clear hK K
  refine awp_block ?_
  refine awp_seq_k fun K hK => ?_
  refine awp_region rfl ?_
  simp only [RR, seval]
  refine hK _ _ ?_; clear hK K
  refine awp_if true rfl (fun _ => ?_) (fun hc => by cases hc)
  refine awp_seq_k fun K hK => ?_
  refine awp_region rfl ?_
  simp only [RR, seval]
  refine hK _ _ ?_; clear hK K
  refine awp_ret ?_; simp only [bodyQ, aresult, ares, RR, seval]
  exact Gives.run ⟨vo, ⟨rfl, hnum⟩, hR, keepsK.refl _ _ _ _⟩
  skip
 by_cases k2 : k = 2
 ·subst k2
  simp only [show ¬ (2 : Int) = 1 by decide, if_false, if_true, Option.map_eq_some_iff] at h
  obtain ⟨x, hg, rfl⟩ := h
  obtain ⟨z0, zl, hg⟩ := lookC_some hg
  have hgx := rowU_get hg
  have hux := hR.uv x (List.mem_of_getElem? hg)
  have hw := hR.v
  refine con_of 143 [.tmp 4] Tryd.func54 rfl rfl rfl rfl ?_
  refine awp_seq_k fun K hK => ?_
  refine awp_region rfl ?_
  simp only [RR, seval]
  refine hK _ _ ?_; clear hK K
  refine awp_seq ?_
  refine awp_seq_k fun K hK => ?_
  refine awp_region rfl ?_
  simp only [RR, seval]
  refine hK _ _ ?_; clear hK K
  refine awp_block ?_
  refine awp_seq_k fun K hK => ?_
  refine awp_region rfl ?_
  simp only [RR, seval]
  refine hK _ _ ?_; clear hK K
  refine awp_if false rfl (fun hc => by cases hc) (fun _ => ?_)
  refine awp_seq_k fun K hK => ?_
  refine awp_region rfl ?_
  simp only [RR, seval]
  refine hK _ _ ?_; clear hK K
  refine awp_if true rfl (fun _ => ?_) (fun hc => by cases hc)
  refine awp_seq_k fun K hK => ?_
  refine awp_region_draw2 (fun x => x ≠ r ∧ x ≠ w) [(0, 3), (1, 3), (2, 3), (3, 1), (4, 3), (5, 3), (6, 3), (7, 1), (8, 3), (9, 1), (10, 3)] [] draws (by kernel_rfl) rfl rfl ?_
  simp only [emitF, hr, hw, z0, zl, hgx, RR, seval]
  refine hK _ _ ?_; clear hK K
  refine awp_ret ?_; simp only [bodyQ, aresult, ares, RR, seval]
  exact Gives.run ⟨vo, ⟨rfl, hux⟩, hR, keepsK.refl _ _ _ _⟩
  skip
 by_cases k3 : k = 3
 ·subst k3
  simp only [show ¬ (3 : Int) = 1 by decide, show ¬ (3 : Int) = 2 by decide, if_false, if_true] at h
  obtain ⟨a0, a1, a2, a3, a4⟩ := w3 rfl
  cases hl0 : l[0]? with
  | none => rw [hl0] at h; cases h
  | some b =>
    simp only [hl0] at h
    have hg0 := CE_get hl0
    cases h1 : kvE cx n b st with
    | none => rw [h1] at h; cases h
    | some r1 =>
      rw [h1] at h
      refine con_of 143 [.tmp 4] Tryd.func54 rfl rfl rfl rfl ?_
      refine awp_seq_k fun K hK => ?_
      refine awp_region rfl ?_
      simp only [RR, seval]
      refine hK _ _ ?_; clear hK K
      refine awp_seq ?_
      refine awp_seq_k fun K hK => ?_
      refine awp_region rfl ?_
      simp only [RR, seval]
      refine hK _ _ ?_; clear hK K
      refine awp_block ?_
      refine awp_seq_k fun K hK => ?_
      refine awp_region rfl ?_
      simp only [RR, seval]
      refine hK _ _ ?_; clear hK K
      refine awp_if false rfl (fun hc => by cases hc) (fun _ => ?_)
      refine awp_seq_k fun K hK => ?_
      refine awp_region rfl ?_
      simp only [RR, seval]
      refine hK _ _ ?_; clear hK K
      refine awp_if false rfl (fun hc => by cases hc) (fun _ => ?_)
      refine awp_seq_k fun K hK => ?_
      refine awp_region rfl ?_
      simp only [RR, seval]
      refine hK _ _ ?_; clear hK K
      refine awp_if true rfl (fun _ => ?_) (fun hc => by cases hc)
      refine awp_seq_k fun K hK => ?_
      refine awp_region rfl ?_
      simp only [hg0, RR, seval]
      refine awpC_G (ih.V i b st vo H r1 (kidok hl0) (kidw hl0) hR h1) (fun _ => trivial) (fun e s vo1 H1 e1 hR1 hk1 => by subst e1; obtain rfl := Option.some.inj (show some (Rz.fin e s) = some o from h); simp only [thenQ_pan, blockQ_pan, bodyQ_pan]; exact ⟨vo1, rfl, hR1, hk1⟩) fun x s1 vo1 H1 e1 ux hR1 hk1 => ?_
      subst e1
      simp only [bindR] at h
      have hr := hR1.r
      simp only [RR, seval]
      refine hK _ _ ?_; clear hK K
      refine awp_seq_k fun K hK => ?_
      refine awp_region_draw2 (fun x => x ≠ r) [(0, 3), (1, 3), (2, 3), (3, 0), (4, 3), (5, 3), (6, 3), (7, 3), (8, 1), (9, 3), (10, 3), (11, 3), (12, 1), (13, 3), (14, 1), (15, 3), (16, 1), (17, 3)] [] draws (by kernel_rfl) rfl rfl ?_
      simp only [emitF, markOf, hr, RR, seval]
      by_cases hxz : x < z
      rotate_left
      ·unfold atC at h
       rw [if_neg hxz] at h
       obtain rfl := Option.some.inj (show some (Rz.fin 3 s1) = some o from h)
       refine awpC_at ux ⟨by omega, a2⟩ hxz ?_
       simp only [thenQ_pan, blockQ_pan, bodyQ_pan]
       exact ⟨vo1, rfl, hR1, hk1⟩
      unfold atC at h
      rw [if_pos hxz] at h
      simp only [Option.map_eq_some_iff] at h
      obtain ⟨y, hy, rfl⟩ := h
      obtain ⟨z0, zl, hy⟩ := lookC_some hy
      have hgy := rowU_get hy
      have uy := hR1.uv y (List.mem_of_getElem? hy)
      have hw := hR1.v
      refine awpC_pure' (at_val _ ux ⟨by omega, a2⟩ ⟨a0, by omega⟩ hxz) ?_
      simp only [z0, zl, hw, hgy, RR, seval]
      refine hK _ _ ?_; clear hK K
      refine awp_ret ?_; simp only [bodyQ, aresult, ares, RR, seval]
      exact Gives.run ⟨vo1, ⟨rfl, uy⟩, hR1, hk1⟩
      skip
 by_cases k4 : k = 4
 ·subst k4
  simp only [show ¬ (4 : Int) = 1 by decide, show ¬ (4 : Int) = 2 by decide, show ¬ (4 : Int) = 3 by decide, if_false, if_true] at h
  obtain ⟨z0, _, f, hf, hp⟩ := w4 rfl
  have hcall := ih.C i a f l st vo H o hkids wl z0 hf hp hR h
  refine con_of 143 [.tmp 4] Tryd.func54 rfl rfl rfl rfl ?_
  refine awp_seq_k fun K hK => ?_
  refine awp_region rfl ?_
  simp only [RR, seval]
  refine hK _ _ ?_; clear hK K
  refine awp_seq ?_
  refine awp_seq_k fun K hK => ?_
  refine awp_region rfl ?_
  simp only [RR, seval]
  refine hK _ _ ?_; clear hK K
  refine awp_block ?_
  refine awp_seq_k fun K hK => ?_
  refine awp_region rfl ?_
  simp only [RR, seval]
  refine hK _ _ ?_; clear hK K
  refine awp_if false rfl (fun hc => by cases hc) (fun _ => ?_)
  refine awp_seq_k fun K hK => ?_
  refine awp_region rfl ?_
  simp only [RR, seval]
  refine hK _ _ ?_; clear hK K
  refine awp_if false rfl (fun hc => by cases hc) (fun _ => ?_)
  refine awp_seq_k fun K hK => ?_
  refine awp_region rfl ?_
  simp only [RR, seval]
  refine hK _ _ ?_; clear hK K
  refine awp_if false rfl (fun hc => by cases hc) (fun _ => ?_)
  refine awp_seq_k fun K hK => ?_
  refine awp_region rfl ?_
  simp only [RR, seval]
  refine hK _ _ ?_; clear hK K
  refine awp_if true rfl (fun _ => ?_) (fun hc => by cases hc)
  refine awp_seq_k fun K hK => ?_
  refine awp_region_draw2 (fun _ => True) [(0, 3), (1, 3), (2, 3), (3, 3), (4, 1), (5, 3), (6, 3), (7, 3), (8, 1), (9, 1), (10, 3)] [] draws (by kernel_rfl) rfl rfl ?_
  simp only [emitF, RR, seval]
  refine awpC_G hcall (fun _ => trivial) (fun e s vo1 H1 e1 hR1 hk1 => by subst e1; simp only [thenQ_pan, blockQ_pan, bodyQ_pan]; exact ⟨vo1, rfl, hR1, hk1⟩) fun x s1 vo1 H1 e1 ux hR1 hk1 => ?_
  subst e1
  simp only [RR, seval]
  refine hK _ _ ?_; clear hK K
  refine awp_ret ?_; simp only [bodyQ, aresult, ares, RR, seval]
  exact Gives.run ⟨vo1, ⟨rfl, ux⟩, hR1, hk1⟩
  skip
 by_cases k5 : k = 5
 ·subst k5
  simp only [show ¬ (5 : Int) = 1 by decide, show ¬ (5 : Int) = 2 by decide, show ¬ (5 : Int) = 3 by decide, show ¬ (5 : Int) = 4 by decide, if_false, if_true, Option.some.injEq] at h
  have hget := get_con hx hR
  rw [h] at hget
  refine con_of 143 [.tmp 4] Tryd.func54 rfl rfl rfl rfl ?_
  refine awp_seq_k fun K hK => ?_
  refine awp_region rfl ?_
  simp only [RR, seval]
  refine hK _ _ ?_; clear hK K
  refine awp_seq ?_
  refine awp_seq_k fun K hK => ?_
  refine awp_region rfl ?_
  simp only [RR, seval]
  refine hK _ _ ?_; clear hK K
  refine awp_block ?_
  refine awp_seq_k fun K hK => ?_
  refine awp_region rfl ?_
  simp only [RR, seval]
  refine hK _ _ ?_; clear hK K
  refine awp_if false rfl (fun hc => by cases hc) (fun _ => ?_)
  refine awp_seq_k fun K hK => ?_
  refine awp_region rfl ?_
  simp only [RR, seval]
  refine hK _ _ ?_; clear hK K
  refine awp_if false rfl (fun hc => by cases hc) (fun _ => ?_)
  refine awp_seq_k fun K hK => ?_
  refine awp_region rfl ?_
  simp only [RR, seval]
  refine hK _ _ ?_; clear hK K
  refine awp_if false rfl (fun hc => by cases hc) (fun _ => ?_)
  refine awp_seq_k fun K hK => ?_
  refine awp_region rfl ?_
  simp only [RR, seval]
  refine hK _ _ ?_; clear hK K
  refine awp_if false rfl (fun hc => by cases hc) (fun _ => ?_)
  refine awp_seq_k fun K hK => ?_
  refine awp_region rfl ?_
  simp only [RR, seval]
  refine hK _ _ ?_; clear hK K
  refine awp_if true rfl (fun _ => ?_) (fun hc => by cases hc)
  refine awp_seq_k fun K hK => ?_
  refine awp_region rfl ?_
  simp only [RR, seval]
  refine awpC_G hget (fun _ => trivial) (fun e s vo1 H1 e1 hR1 hk1 => by subst e1; simp only [thenQ_pan, blockQ_pan, bodyQ_pan]; exact ⟨vo1, rfl, hR1, hk1⟩) fun x s1 vo1 H1 e1 ux hR1 hk1 => ?_
  subst e1
  simp only [RR, seval]
  refine hK _ _ ?_; clear hK K
  refine awp_ret ?_; simp only [bodyQ, aresult, ares, RR, seval]
  exact Gives.run ⟨vo1, ⟨rfl, ux⟩, hR1, hk1⟩
  skip
 simp only [if_neg k1, if_neg k2, if_neg k3, if_neg k4, if_neg k5] at h
 cases hl0 : l[0]? with
 | none => rw [hl0] at h; cases h
 | some b =>
   simp only [hl0] at h
   have hg0 := CE_get hl0
   by_cases k7 : k = 7
   ·subst k7
    simp only [if_true] at h
    cases h1 : kvE cx n b st with
    | none => rw [h1] at h; cases h
    | some r1 =>
      rw [h1] at h
      refine con_of 143 [.tmp 4] Tryd.func54 rfl rfl rfl rfl ?_
      refine awp_seq_k fun K hK => ?_
      refine awp_region rfl ?_
      simp only [RR, seval]
      refine hK _ _ ?_; clear hK K
      refine awp_seq ?_
      refine awp_seq_k fun K hK => ?_
      refine awp_region rfl ?_
      simp only [RR, seval]
      refine hK _ _ ?_; clear hK K
      refine awp_block ?_
      refine awp_seq_k fun K hK => ?_
      refine awp_region rfl ?_
      simp only [RR, seval]
      refine hK _ _ ?_; clear hK K
      refine awp_if false rfl (fun hc => by cases hc) (fun _ => ?_)
      refine awp_seq_k fun K hK => ?_
      refine awp_region rfl ?_
      simp only [RR, seval]
      refine hK _ _ ?_; clear hK K
      refine awp_if false rfl (fun hc => by cases hc) (fun _ => ?_)
      refine awp_seq_k fun K hK => ?_
      refine awp_region rfl ?_
      simp only [RR, seval]
      refine hK _ _ ?_; clear hK K
      refine awp_if false rfl (fun hc => by cases hc) (fun _ => ?_)
      refine awp_seq_k fun K hK => ?_
      refine awp_region rfl ?_
      simp only [RR, seval]
      refine hK _ _ ?_; clear hK K
      refine awp_if false rfl (fun hc => by cases hc) (fun _ => ?_)
      refine awp_seq_k fun K hK => ?_
      refine awp_region rfl ?_
      simp only [RR, seval]
      refine hK _ _ ?_; clear hK K
      refine awp_if false rfl (fun hc => by cases hc) (fun _ => ?_)
      refine awp_seq_k fun K hK => ?_
      refine awp_region rfl ?_
      simp only [RR, seval]
      refine hK _ _ ?_; clear hK K
      refine awp_if false rfl (fun hc => by cases hc) (fun _ => ?_)
      refine awp_seq_k fun K hK => ?_
      refine awp_region rfl ?_
      simp only [RR, seval]
      refine hK _ _ ?_; clear hK K
      refine awp_if true rfl (fun _ => ?_) (fun hc => by cases hc)
      refine awp_seq_k fun K hK => ?_
      refine awp_region rfl ?_
      simp only [hg0, RR, seval]
      refine awpC_G (ih.V i b st vo H r1 (kidok hl0) (kidw hl0) hR h1) (fun _ => trivial) (fun e s vo1 H1 e1 hR1 hk1 => by subst e1; obtain rfl := Option.some.inj (show some (Rz.fin e s) = some o from h); simp only [thenQ_pan, blockQ_pan, bodyQ_pan]; exact ⟨vo1, rfl, hR1, hk1⟩) fun x s1 vo1 H1 e1 ux hR1 hk1 => ?_
      subst e1
      simp only [bindR] at h
      cases h
      simp only [RR, seval]
      refine awpC_pure' (truth_con _) ?_
      simp only [RR, seval]
      refine hK _ _ ?_; clear hK K
      refine awp_ret ?_; simp only [bodyQ, aresult, ares, RR, seval]
      exact Gives.run ⟨vo1, ⟨by by_cases hz : x = 0 <;> simp [hz], by by_cases hz : x = 0 <;> simp [hz, u32R]⟩, hR1, hk1⟩
      skip
   ·rw [if_neg k7] at h
    cases hl1 : l[1]? with
    | none => rw [hl1] at h; cases h
    | some d =>
      simp only [hl1] at h
      have hg1 := CE_get hl1
      by_cases k6 : k = 6
      ·subst k6
       simp only [if_true] at h
       cases h1 : kvE cx n b st with
       | none => rw [h1] at h; cases h
       | some r1 =>
         rw [h1] at h
         refine con_of 143 [.tmp 4] Tryd.func54 rfl rfl rfl rfl ?_
         refine awp_seq_k fun K hK => ?_
         refine awp_region rfl ?_
         simp only [RR, seval]
         refine hK _ _ ?_; clear hK K
         refine awp_seq ?_
         refine awp_seq_k fun K hK => ?_
         refine awp_region rfl ?_
         simp only [RR, seval]
         refine hK _ _ ?_; clear hK K
         refine awp_block ?_
         refine awp_seq_k fun K hK => ?_
         refine awp_region rfl ?_
         simp only [RR, seval]
         refine hK _ _ ?_; clear hK K
         refine awp_if false rfl (fun hc => by cases hc) (fun _ => ?_)
         refine awp_seq_k fun K hK => ?_
         refine awp_region rfl ?_
         simp only [RR, seval]
         refine hK _ _ ?_; clear hK K
         refine awp_if false rfl (fun hc => by cases hc) (fun _ => ?_)
         refine awp_seq_k fun K hK => ?_
         refine awp_region rfl ?_
         simp only [RR, seval]
         refine hK _ _ ?_; clear hK K
         refine awp_if false rfl (fun hc => by cases hc) (fun _ => ?_)
         refine awp_seq_k fun K hK => ?_
         refine awp_region rfl ?_
         simp only [RR, seval]
         refine hK _ _ ?_; clear hK K
         refine awp_if false rfl (fun hc => by cases hc) (fun _ => ?_)
         refine awp_seq_k fun K hK => ?_
         refine awp_region rfl ?_
         simp only [RR, seval]
         refine hK _ _ ?_; clear hK K
         refine awp_if false rfl (fun hc => by cases hc) (fun _ => ?_)
         refine awp_seq_k fun K hK => ?_
         refine awp_region rfl ?_
         simp only [RR, seval]
         refine hK _ _ ?_; clear hK K
         refine awp_if true rfl (fun _ => ?_) (fun hc => by cases hc)
         refine awp_seq_k fun K hK => ?_
         refine awp_region rfl ?_
         simp only [hg0, RR, seval]
         refine awpC_G (ih.V i b st vo H r1 (kidok hl0) (kidw hl0) hR h1) (fun _ => trivial) (fun e s vo1 H1 e1 hR1 hk1 => by subst e1; obtain rfl := Option.some.inj (show some (Rz.fin e s) = some o from h); simp only [thenQ_pan, blockQ_pan, bodyQ_pan]; exact ⟨vo1, rfl, hR1, hk1⟩) fun x s1 vo1 H1 e1 ux hR1 hk1 => ?_
         subst e1
         simp only [bindR] at h
         have hr := hR1.r
         obtain ⟨r2, h2⟩ : ∃ r2, kvE cx n d s1 = some r2 := by
          cases h2 : kvE cx n d s1 with
          | none => rw [h2] at h; cases h
          | some r2 => exact ⟨r2, rfl⟩
         rw [h2] at h
         simp only [RR, seval]
         refine hK _ _ ?_; clear hK K
         refine awp_seq_k fun K hK => ?_
         refine awp_region rfl ?_
         simp only [hg1, RR, seval]
         refine awpC_G (ih.V i d s1 vo1 H1 r2 (kidok hl1) (kidw hl1) hR1 h2) (fun _ => trivial) (fun e s vo2 H2 e1 hR2 hk2 => by subst e1; obtain rfl := Option.some.inj (show some (Rz.fin e s) = some o from h); simp only [thenQ_pan, blockQ_pan, bodyQ_pan]; exact ⟨vo2, rfl, hR2, hk1.trans hk2⟩) fun y s2 vo2 H2 e1 uy hR2 hk2 => ?_
         subst e1
         simp only [] at h
         have hr := hR2.r
         have hA := Apply_con op x y uy
         have uA := applyI_u op ux uy
         generalize applyI op x y = q at hA uA h
         obtain ⟨q1, q2⟩ := q
         simp only [RR, seval]
         refine hK _ _ ?_; clear hK K
         refine awp_seq_k fun K hK => ?_
         refine awp_region rfl ?_
         simp only [RR, seval]
         refine awpC_pure' (hA) ?_
         simp only [RR, seval]
         refine hK _ _ ?_; clear hK K
         refine awp_seq ?_
         refine awp_seq_k fun K hK => ?_
         refine awp_region rfl ?_
         simp only [RR, seval]
         refine hK _ _ ?_; clear hK K
         refine awp_if _ rfl (fun hc17 => ?_) (fun hc17 => ?_)
         ·rw [if_neg (show ¬ q2 = 0 by simpa using hc17)] at h
          cases h
          refine awp_region rfl ?_
          simp only [RR, seval]
          simp only [thenQ_pan, blockQ_pan, bodyQ_pan]
          exact ⟨vo2, rfl, hR2, hk1.trans hk2⟩
         ·rw [if_pos (show q2 = 0 by simpa using hc17)] at h
          cases h
          refine awp_skip ?_; try simp only [RR]
          refine awp_seq_k fun K hK => ?_
          refine awp_region rfl ?_
          simp only [RR, seval]
          refine hK _ _ ?_; clear hK K
          refine awp_ret ?_; simp only [bodyQ, aresult, ares, RR, seval]
          exact Gives.run ⟨vo2, ⟨rfl, uA⟩, hR2, hk1.trans hk2⟩
          skip
      ·rw [if_neg k6] at h
       cases h1 : kvE cx n b st with
       | none => rw [h1] at h; cases h
       | some r1 =>
         rw [h1] at h
         have hk9 : decide (k = 9) = !decide (k = 8) := by
          rcases (w6 k1 k2 k3 k4 k5 k7).2 with e | rfl | rfl
          ·exact absurd e k6
          ·rfl
          ·rfl
         refine con_of 143 [.tmp 4] Tryd.func54 rfl rfl rfl rfl ?_
         refine awp_seq_k fun K hK => ?_
         refine awp_region rfl ?_
         simp only [RR, seval]
         refine hK _ _ ?_; clear hK K
         refine awp_seq ?_
         refine awp_seq_k fun K hK => ?_
         refine awp_region rfl ?_
         simp only [RR, seval]
         refine hK _ _ ?_; clear hK K
         refine awp_block ?_
         refine awp_seq_k fun K hK => ?_
         refine awp_region rfl ?_
         simp only [k1, RR, seval]
         refine hK _ _ ?_; clear hK K
         refine awp_if false rfl (fun hc => by cases hc) (fun _ => ?_)
         refine awp_seq_k fun K hK => ?_
         refine awp_region rfl ?_
         simp only [k2, RR, seval]
         refine hK _ _ ?_; clear hK K
         refine awp_if false rfl (fun hc => by cases hc) (fun _ => ?_)
         refine awp_seq_k fun K hK => ?_
         refine awp_region rfl ?_
         simp only [k3, RR, seval]
         refine hK _ _ ?_; clear hK K
         refine awp_if false rfl (fun hc => by cases hc) (fun _ => ?_)
         refine awp_seq_k fun K hK => ?_
         refine awp_region rfl ?_
         simp only [k4, RR, seval]
         refine hK _ _ ?_; clear hK K
         refine awp_if false rfl (fun hc => by cases hc) (fun _ => ?_)
         refine awp_seq_k fun K hK => ?_
         refine awp_region rfl ?_
         simp only [k5, RR, seval]
         refine hK _ _ ?_; clear hK K
         refine awp_if false rfl (fun hc => by cases hc) (fun _ => ?_)
         refine awp_seq_k fun K hK => ?_
         refine awp_region rfl ?_
         simp only [k6, RR, seval]
         refine hK _ _ ?_; clear hK K
         refine awp_if false rfl (fun hc => by cases hc) (fun _ => ?_)
         refine awp_seq_k fun K hK => ?_
         refine awp_region rfl ?_
         simp only [k7, RR, seval]
         refine hK _ _ ?_; clear hK K
         refine awp_if false rfl (fun hc => by cases hc) (fun _ => ?_)
         refine awp_skip ?_; try simp only [RR]
         refine awp_seq_k fun K hK => ?_
         refine awp_region rfl ?_
         simp only [hg0, RR, seval]
         refine awpC_G (ih.V i b st vo H r1 (kidok hl0) (kidw hl0) hR h1) (fun _ => trivial) (fun e s vo1 H1 e1 hR1 hk1 => by subst e1; obtain rfl := Option.some.inj (show some (Rz.fin e s) = some o from h); simp only [thenQ_pan, bodyQ_pan]; exact ⟨vo1, rfl, hR1, hk1⟩) fun x s1 vo1 H1 e1 ux hR1 hk1 => ?_
         subst e1
         simp only [bindR] at h
         have hr := hR1.r
         simp only [RR, seval]
         refine hK _ _ ?_; clear hK K
         refine awp_seq ?_
         refine awp_seq_k fun K hK => ?_
         refine awp_region rfl ?_
         simp only [hk9, RR, seval]
         refine hK _ _ ?_; clear hK K
         refine awp_if _ rfl (fun hc23 => ?_) (fun hc23 => ?_)
         ·rw [if_pos (show decide (x = 0) = decide (k = 8) by simpa using hc23)] at h
          cases h
          refine awp_seq_k fun K hK => ?_
          refine awp_region rfl ?_
          simp only [RR, seval]
          refine awpC_pure' (truth_con _) ?_
          simp only [RR, seval]
          refine hK _ _ ?_; clear hK K
          refine awp_ret ?_; simp only [bodyQ, aresult, ares, RR, seval]
          exact Gives.run ⟨vo1, ⟨by by_cases hz : x = 0 <;> simp [hz], by by_cases hz : x = 0 <;> simp [hz, u32R]⟩, hR1, hk1⟩
         ·rw [if_neg (show ¬ decide (x = 0) = decide (k = 8) by simpa using hc23)] at h
          refine awp_skip ?_; try simp only [RR]
          refine awp_seq_k fun K hK => ?_
          refine awp_region rfl ?_
          simp only [hg1, RR, seval]
          obtain ⟨r2, h2⟩ : ∃ r2, kvE cx n d s1 = some r2 := by
           cases h2 : kvE cx n d s1 with
           | none => rw [h2] at h; cases h
           | some r2 => exact ⟨r2, rfl⟩
          rw [h2] at h
          refine awpC_G (ih.V i d s1 vo1 H1 r2 (kidok hl1) (kidw hl1) hR1 h2) (fun _ => trivial) (fun e s vo2 H2 e1 hR2 hk2 => by subst e1; obtain rfl := Option.some.inj (show some (Rz.fin e s) = some o from h); simp only [thenQ_pan, bodyQ_pan]; exact ⟨vo2, rfl, hR2, hk1.trans hk2⟩) fun y s2 vo2 H2 e1 uy hR2 hk2 => ?_
          subst e1
          simp only [] at h
          cases h
          simp only [RR, seval]
          refine awpC_pure' (truth_con _) ?_
          simp only [RR, seval]
          refine hK _ _ ?_; clear hK K
          refine awp_ret ?_; simp only [bodyQ, aresult, ares, RR, seval]
          exact Gives.run ⟨vo2, ⟨by by_cases hz : y = 0 <;> simp [hz], by by_cases hz : y = 0 <;> simp [hz, u32R]⟩, hR2, hk1.trans hk2⟩
end
end Go.Proofs.YtnfbbjhdflhmjaaDoor
