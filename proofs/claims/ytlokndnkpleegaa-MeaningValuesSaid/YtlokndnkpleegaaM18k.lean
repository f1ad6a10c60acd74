/- Chapter 18, the program's: an expression's value. -/
import Derived.Test.YtlokndnkpleegaaM18j
set_option linter.unusedSimpArgs false
set_option linter.unusedVariables false
set_option maxRecDepth 10000
namespace Go.Al
theorem rowU_get {l : List Int} {i : Nat} {x : Int} (h : l[i]? = some x) : (l.map rowU)[i]? = some [.int .u32 x] := by rw [List.getElem?_map, h]; rfl
theorem cE_get {rs : Str → Bool × Int} {l : List Ex} {i : Nat} {x : Ex} (h : l[i]? = some x) : (l.map (cE rs))[i]? = some (cE rs x) := by rw [List.getElem?_map, h]; rfl
theorem cS_get {rs : Str → Bool × Int} {l : List Sm} {i : Nat} {x : Sm} (h : l[i]? = some x) : (l.map (cS rs))[i]? = some (cS rs x) := by rw [List.getElem?_map, h]; rfl
end Go.Al
namespace Go.Proofs.Ytlokndnkpleegaa
open Go.Al
/-- how a statement ends -/
def postS (cx : Cx) (br bv : Nat) (abs : List Nat) (vo : AV) (bo n : Nat) (H : Hp) (r : Rz (Option Int × List Int)) : AEnd → Hp → Prop := fun ae H' =>
  ∃ vo', (match r with
    | .val p _ => ae = .ret (.tup [.int .u32 (p.1.getD 0), .bool p.1.isSome]) ∧ u32R (p.1.getD 0) ∧ p.2.length = n ∧ (∀ x ∈ p.2, u32R x) ∧ OwnB bv abs vo' bo (p.2.map rowU) H'
    | .fin e _ => ae = .pan (endV e)) ∧ RunH cx br bv abs r.st vo' H' ∧ keepsS br bv abs vo vo' bo H H'
/-- the program's functions at a depth -/
structure PrgC (cx : Cx) (r v : Nat) (abs : List Nat) (n : Nat) : Prop where
  V : ∀ (rs : Str → Bool × Int) (ow : List Int) (e : Ex) (st : RS) (vo : AV) (H : Hp) (bo : Nat) (o : Rz Int), e.ok → RunH cx r v abs st vo H → OwnB v abs vo bo (ow.map rowU) H → (∀ x ∈ ow, u32R x) → evE cx n rs ow e st = some o →
    Con env 65 [.ptr 8 r 0 0, .ipt (cE rs e) 0, .osl 1 bo ow.length] H (postG cx r v abs vo H (fun x => .int .u32 x) u32R o)
  C : ∀ (rs : Str → Bool × Int) (ow : List Int) (i : Int) (f : Cf) (l : List Ex) (st : RS) (vo : AV) (H : Hp) (bo : Nat) (o : Rz Int), okE l → 0 ≤ i → cx.funs[i.toNat]? = some f → RunH cx r v abs st vo H → OwnB v abs vo bo (ow.map rowU) H → (∀ x ∈ ow, u32R x) → evC cx n rs ow i l st = some o →
    Con env 69 [.ptr 8 r 0 0, .ipt f.row 0, .isl 6 (l.map (cE rs)), .osl 1 bo ow.length] H (postG cx r v abs vo H (fun x => .int .u32 x) u32R o)
  S : ∀ (rs : Str → Bool × Int) (ow : List Int) (e : Sm) (st : RS) (vo : AV) (H : Hp) (bo : Nat) (o : Rz (Option Int × List Int)), e.ok → RunH cx r v abs st vo H → OwnB v abs vo bo (ow.map rowU) H → (∀ x ∈ ow, u32R x) → evS cx n rs ow e st = some o →
    Con env 48 [.ptr 8 r 0 0, .ipt (cS rs e) 0, .osl 1 bo ow.length] H (postS cx r v abs vo bo ow.length H o)
  L : ∀ (rs : Str → Bool × Int) (ow : List Int) (l : List Sm) (st : RS) (vo : AV) (H : Hp) (bo : Nat) (o : Rz (Option Int × List Int)), okS l → RunH cx r v abs st vo H → OwnB v abs vo bo (ow.map rowU) H → (∀ x ∈ ow, u32R x) → evL cx n rs ow l st = some o →
    Con env 34 [.ptr 8 r 0 0, .isl 6 (l.map (cS rs)), .osl 1 bo ow.length] H (postS cx r v abs vo bo ow.length H o)
  W : ∀ (rs : Str → Bool × Int) (ow : List Int) (e : Sm) (c : Ex) (st : RS) (vo : AV) (H : Hp) (bo : Nat) (o : Rz (Option Int × List Int)), e.ok → e.es[0]? = some c → RunH cx r v abs st vo H → OwnB v abs vo bo (ow.map rowU) H → (∀ x ∈ ow, u32R x) → evW cx n rs ow c e.thn st = some o →
    Con env 68 [.ptr 8 r 0 0, .ipt (cS rs e) 0, .osl 1 bo ow.length] H (postS cx r v abs vo bo ow.length H o)
theorem get1 {α : Type} {l : List α} {x : α} (h : l[1]? = some x) : ∃ y, l[0]? = some y := by
  cases l with
  | nil => simp at h
  | cons y l => exact ⟨y, rfl⟩
section
variable {cx : Cx} {r v : Nat} {abs : List Nat} {n : Nat}
set_option maxHeartbeats 2000000 in
theorem value_step (ih : PrgC cx r v abs n) (hx : CxOk cx) (rs : Str → Bool × Int) (ow : List Int) (e : Ex) (st : RS) (vo : AV) (H : Hp) (bo : Nat) (o : Rz Int) (he : e.ok) (hR : RunH cx r v abs st vo H) (hO : OwnB v abs vo bo (ow.map rowU) H) (hu : ∀ x ∈ ow, u32R x) (h : evE cx (n + 1) rs ow e st = some o) :
    Con env 65 [.ptr 8 r 0 0, .ipt (cE rs e) 0, .osl 1 bo ow.length] H (postG cx r v abs vo H (fun x => .int .u32 x) u32R o) := by
  obtain ⟨k, op, m, s, l⟩ := e
  have hr := hR.r
  have hv := hR.v
  have hbo := hO.h
  have hnum := he.num
  have hkids := he.kids
  simp only [Ex.num, Ex.kids] at hnum hkids
  simp only [evE] at h
  simp only [cE, cEs_map]
  have hV := fun a st vo H o h1 h2 h3 h4 => ih.V rs ow a st vo H bo o h1 h2 h3 hu h4
  have kidok : ∀ {j : Nat} {a : Ex}, l[j]? = some a → a.ok := fun hj => hkids.all _ (List.mem_of_getElem? hj)
  generalize rs s = p at h ⊢
  obtain ⟨pl, pn⟩ := p
  by_cases k1 : k = 1
  · subst k1
    simp only [if_true] at h
    cases h
    refine con_of 154 [.tmp 6] Try.func65 rfl rfl rfl rfl ?_
    refine awp_seq_k fun K hK => ?_
    refine awp_region rfl ?_
    simp only [RR, seval]
    refine hK _ _ ?_; clear hK K
    refine awp_seq ?_
    refine awp_seq_k fun K hK => ?_
    refine awp_region rfl ?_
    simp only [RR, seval]
    refine hK _ _ ?_; clear hK K
    refine awp_block ?_
    refine awp_seq_k fun K hK => ?_
    refine awp_region rfl ?_
    simp only [RR, seval]
    refine hK _ _ ?_; clear hK K
    refine awp_if true rfl (fun _ => ?_) (fun hc => by cases hc)
    refine awp_seq_k fun K hK => ?_
    refine awp_region rfl ?_
    simp only [RR, seval]
    refine hK _ _ ?_; clear hK K
    refine awp_ret ?_; simp only [bodyQ, aresult, ares, RR, seval]
    exact Gives.run ⟨vo, ⟨rfl, hnum⟩, hR, keepsR.refl _ _ _ _ _⟩
    skip
  by_cases k2 : k = 2
  · subst k2
    simp only [show ¬ (2 : Int) = 1 by decide, if_false, if_true, lookR] at h
    by_cases z0 : 0 ≤ pn
    · rw [if_pos z0] at h
      cases pl with
      | true =>
        simp only [if_true, Option.map_eq_some_iff] at h
        obtain ⟨x, hg, rfl⟩ := h
        have hl := (List.getElem?_eq_some_iff.1 hg).1
        have zl : pn < (ow.length : Int) := by omega
        have hgx := rowU_get hg
        have hux := hu x (List.mem_of_getElem? hg)
        refine con_of 154 [.tmp 6] Try.func65 rfl rfl rfl rfl ?_
        refine awp_seq_k fun K hK => ?_
        refine awp_region rfl ?_
        simp only [z0, zl, hgx, RR, seval]
        refine hK _ _ ?_; clear hK K
        refine awp_seq ?_
        refine awp_seq_k fun K hK => ?_
        refine awp_region rfl ?_
        simp only [hr, hbo, z0, zl, hgx, RR, seval]
        refine hK _ _ ?_; clear hK K
        refine awp_block ?_
        refine awp_seq_k fun K hK => ?_
        refine awp_region rfl ?_
        simp only [z0, zl, hgx, RR, seval]
        refine hK _ _ ?_; clear hK K
        refine awp_if false rfl (fun hc => by cases hc) (fun _ => ?_)
        refine awp_seq_k fun K hK => ?_
        refine awp_region rfl ?_
        simp only [z0, zl, hgx, RR, seval]
        refine hK _ _ ?_; clear hK K
        refine awp_if true rfl (fun _ => ?_) (fun hc => by cases hc)
        refine awp_seq ?_
        refine awp_seq_k fun K hK => ?_
        refine awp_region rfl ?_
        simp only [hr, hbo, z0, zl, hgx, RR, seval]
        refine hK _ _ ?_; clear hK K
        refine awp_if true rfl (fun _ => ?_) (fun hc => by cases hc)
        refine awp_seq_k fun K hK => ?_
        refine awp_region rfl ?_
        simp only [hr, hbo, z0, zl, hgx, RR, seval]
        refine hK _ _ ?_; clear hK K
        refine awp_ret ?_; simp only [bodyQ, aresult, ares, z0, zl, hgx, RR, seval]
        exact Gives.run ⟨vo, ⟨rfl, hux⟩, hR, keepsR.refl _ _ _ _ _⟩
        skip
      | false =>
        simp only [Bool.false_eq_true, if_false, Option.map_eq_some_iff] at h
        obtain ⟨x, hg, rfl⟩ := h
        have hl := (List.getElem?_eq_some_iff.1 hg).1
        have zl : pn < (st.vars.length : Int) := by omega
        have hgx := rowU_get hg
        have hux := hR.uv x (List.mem_of_getElem? hg)
        refine con_of 154 [.tmp 6] Try.func65 rfl rfl rfl rfl ?_
        refine awp_seq_k fun K hK => ?_
        refine awp_region rfl ?_
        simp only [z0, zl, hgx, RR, seval]
        refine hK _ _ ?_; clear hK K
        refine awp_seq ?_
        refine awp_seq_k fun K hK => ?_
        refine awp_region rfl ?_
        simp only [hr, hv, z0, zl, hgx, RR, seval]
        refine hK _ _ ?_; clear hK K
        refine awp_block ?_
        refine awp_seq_k fun K hK => ?_
        refine awp_region rfl ?_
        simp only [z0, zl, hgx, RR, seval]
        refine hK _ _ ?_; clear hK K
        refine awp_if false rfl (fun hc => by cases hc) (fun _ => ?_)
        refine awp_seq_k fun K hK => ?_
        refine awp_region rfl ?_
        simp only [z0, zl, hgx, RR, seval]
        refine hK _ _ ?_; clear hK K
        refine awp_if true rfl (fun _ => ?_) (fun hc => by cases hc)
        refine awp_seq ?_
        refine awp_seq_k fun K hK => ?_
        refine awp_region rfl ?_
        simp only [hr, hv, z0, zl, hgx, RR, seval]
        refine hK _ _ ?_; clear hK K
        refine awp_if false rfl (fun hc => by cases hc) (fun _ => ?_)
        refine awp_skip ?_; try simp only [RR]
        refine awp_seq_k fun K hK => ?_
        refine awp_region_draw2 (fun x => x ≠ r ∧ x ≠ v) [(0, 3), (1, 3), (2, 3), (3, 1), (4, 3), (5, 3), (6, 3), (7, 1), (8, 3), (9, 1), (10, 3)] [] draws (by kernel_rfl) rfl rfl ?_
        simp only [emitF, markOf, EM, hr, hv, z0, zl, hgx, RR, seval]
        refine hK _ _ ?_; clear hK K
        refine awp_ret ?_; simp only [bodyQ, aresult, ares, z0, zl, hgx, RR, seval]
        exact Gives.run ⟨vo, ⟨rfl, hux⟩, hR, keepsR.refl _ _ _ _ _⟩
        skip
    · rw [if_neg z0] at h
      cases h
  by_cases k3 : k = 3
  · subst k3
    simp only [show ¬ (3 : Int) = 1 by decide, show ¬ (3 : Int) = 2 by decide, if_false, if_true] at h
    cases hl0 : l[0]? with
    | none => rw [hl0] at h; cases h
    | some a =>
      simp only [hl0] at h
      have hg0 := cE_get (rs := rs) hl0
      cases h1 : evE cx n rs ow a st with
      | none => rw [h1] at h; cases h
      | some r1 =>
        rw [h1] at h
        refine con_of 154 [.tmp 6] Try.func65 rfl rfl rfl rfl ?_
        refine awp_seq_k fun K hK => ?_
        refine awp_region rfl ?_
        simp only [hg0, RR, seval]
        refine hK _ _ ?_; clear hK K
        refine awp_seq ?_
        refine awp_seq_k fun K hK => ?_
        refine awp_region rfl ?_
        simp only [hr, hg0, RR, seval]
        refine hK _ _ ?_; clear hK K
        refine awp_block ?_
        refine awp_seq_k fun K hK => ?_
        refine awp_region rfl ?_
        simp only [hg0, RR, seval]
        refine hK _ _ ?_; clear hK K
        refine awp_if false rfl (fun hc => by cases hc) (fun _ => ?_)
        refine awp_seq_k fun K hK => ?_
        refine awp_region rfl ?_
        simp only [hg0, RR, seval]
        refine hK _ _ ?_; clear hK K
        refine awp_if false rfl (fun hc => by cases hc) (fun _ => ?_)
        refine awp_seq_k fun K hK => ?_
        refine awp_region rfl ?_
        simp only [hg0, RR, seval]
        refine hK _ _ ?_; clear hK K
        refine awp_if true rfl (fun _ => ?_) (fun hc => by cases hc)
        refine awp_seq_k fun K hK => ?_
        refine awp_region_draw2 (fun _ => True) [(0, 3), (1, 3), (2, 3), (3, 3), (4, 0), (5, 3), (6, 3), (7, 3), (8, 3), (9, 1), (10, 3), (11, 3), (12, 1), (13, 1), (14, 3), (15, 1), (16, 3)] [] draws (by kernel_rfl) rfl rfl ?_
        simp only [emitF, markOf, EM, hr, hg0, RR, seval]
        refine ⟨fun _ hh => by simp [atouch] at hh, ?_⟩
        refine awpC_G (hV a st vo H r1 (kidok hl0) hR hO h1) (fun _ => trivial) ?_ ?_
        · rintro e s vo1 H1 e1 hR1 hk1
          subst e1
          obtain rfl := Option.some.inj (show some (Rz.fin e s) = some o from h)
          simp only [thenQ_pan, blockQ_pan, bodyQ_pan]
          exact ⟨vo1, rfl, hR1, hk1⟩
        intro x s1 vo1 H1 e1 ux hR1 hk1
        subst e1
        simp only [bindR] at h
        by_cases z0 : 0 ≤ pn
        rotate_left
        · rw [if_neg z0] at h; cases h
        rw [if_pos z0] at h
        obtain ⟨i, rfl⟩ := Int.eq_ofNat_of_zero_le z0
        simp only [Int.toNat_natCast, atR] at h
        obtain ⟨la, hla⟩ : ∃ la, s1.arrs[i]? = some la := by
          cases hla : s1.arrs[i]? with
          | none => rw [hla] at h; cases h
          | some la => exact ⟨la, rfl⟩
        rw [hla] at h
        simp only at h
        have hl : i < abs.length := by rw [hR1.al]; exact (List.getElem?_eq_some_iff.1 hla).1
        have hb := List.getElem?_eq_getElem hl
        generalize abs[i] = ba at hb
        have hc := at_con hR1 ux hb hla
        simp only [RR, seval]
        by_cases hxl : x.toNat < la.length
        rotate_left
        · rw [if_neg hxl] at hc h
          cases h
          refine awpC_G hc (fun _ => trivial) (fun e s vo2 H2 e2 hR2 hk2 => ?_) (fun _ _ _ _ e2 => by cases e2)
          cases e2
          simp only [thenQ_pan, blockQ_pan, bodyQ_pan]
          exact ⟨vo2, rfl, hR2, hk1.trans hk2⟩
        rw [if_pos hxl] at hc h
        refine awpC_G hc (fun _ => trivial) (fun _ _ _ _ e2 => by cases e2) fun j s2 vo2 H2 e2 hj hR2 hk2 => ?_
        cases e2
        simp only [bindR, hla, Option.bind_some, Option.map_eq_some_iff] at h
        obtain ⟨y, hy, rfl⟩ := h
        have hbb := hR2.a i ba la hb hla
        have hgy := rowU_get hy
        have uy := (hR2.ua la (List.mem_of_getElem? hla)).2 y (List.mem_of_getElem? hy)
        simp only [hbb, hgy, RR, seval]
        refine hK _ _ ?_; clear hK K
        refine awp_ret ?_; simp only [bodyQ, aresult, ares, hg0, RR, seval]
        exact Gives.run ⟨vo2, ⟨rfl, uy⟩, hR2, hk1.trans hk2⟩
        skip
  by_cases k4 : k = 4
  · subst k4
    simp only [show ¬ (4 : Int) = 1 by decide, show ¬ (4 : Int) = 2 by decide, show ¬ (4 : Int) = 3 by decide, if_false, if_true] at h
    obtain ⟨f, z0, hf⟩ : ∃ f, 0 ≤ pn ∧ cx.funs[pn.toNat]? = some f := by
      cases n with
      | zero => simp [evC] at h
      | succ n =>
        simp only [evC] at h
        by_cases z : pn < 0
        · rw [if_pos z] at h; cases h
        · rw [if_neg z] at h
          cases hf : cx.funs[pn.toNat]? with
          | none => rw [hf] at h; cases h
          | some f => exact ⟨f, by omega, rfl⟩
    have hfr : (cx.funs.map Cf.row)[pn.toNat]? = some f.row := by rw [List.getElem?_map, hf]; rfl
    have hcall := ih.C rs ow pn f l st vo H bo o hkids z0 hf hR hO hu h
    refine con_of 154 [.tmp 6] Try.func65 rfl rfl rfl rfl ?_
    refine awp_seq_k fun K hK => ?_
    refine awp_region rfl ?_
    simp only [z0, hfr, RR, seval]
    refine hK _ _ ?_; clear hK K
    refine awp_seq ?_
    refine awp_seq_k fun K hK => ?_
    refine awp_region rfl ?_
    simp only [hr, z0, hfr, RR, seval]
    refine hK _ _ ?_; clear hK K
    refine awp_block ?_
    refine awp_seq_k fun K hK => ?_
    refine awp_region rfl ?_
    simp only [z0, hfr, RR, seval]
    refine hK _ _ ?_; clear hK K
    refine awp_if false rfl (fun hc => by cases hc) (fun _ => ?_)
    refine awp_seq_k fun K hK => ?_
    refine awp_region rfl ?_
    simp only [z0, hfr, RR, seval]
    refine hK _ _ ?_; clear hK K
    refine awp_if false rfl (fun hc => by cases hc) (fun _ => ?_)
    refine awp_seq_k fun K hK => ?_
    refine awp_region rfl ?_
    simp only [z0, hfr, RR, seval]
    refine hK _ _ ?_; clear hK K
    refine awp_if false rfl (fun hc => by cases hc) (fun _ => ?_)
    refine awp_seq_k fun K hK => ?_
    refine awp_region rfl ?_
    simp only [z0, hfr, RR, seval]
    refine hK _ _ ?_; clear hK K
    refine awp_if true rfl (fun _ => ?_) (fun hc => by cases hc)
    refine awp_seq_k fun K hK => ?_
    refine awp_region_draw2 (fun _ => True) [(0, 3), (1, 3), (2, 3), (3, 3), (4, 1), (5, 3), (6, 3), (7, 3), (8, 1), (9, 3), (10, 3), (11, 3), (12, 3), (13, 1), (14, 3), (15, 1), (16, 3)] [] draws (by kernel_rfl) rfl rfl ?_
    simp only [emitF, markOf, EM, hr, z0, hfr, RR, seval]
    refine awpC_G hcall (fun _ => trivial) (fun e s vo1 H1 e1 hR1 hk1 => by subst e1; simp only [thenQ_pan, blockQ_pan, bodyQ_pan]; exact ⟨vo1, rfl, hR1, hk1⟩) fun x s1 vo1 H1 e1 ux hR1 hk1 => ?_
    subst e1
    simp only [RR, seval]
    refine hK _ _ ?_; clear hK K
    refine awp_ret ?_; simp only [bodyQ, aresult, ares, z0, hfr, RR, seval]
    exact Gives.run ⟨vo1, ⟨rfl, ux⟩, hR1, hk1⟩
    skip
  by_cases k5 : k = 5
  · subst k5
    simp only [show ¬ (5 : Int) = 1 by decide, show ¬ (5 : Int) = 2 by decide, show ¬ (5 : Int) = 3 by decide, show ¬ (5 : Int) = 4 by decide, if_false, if_true, Option.some.injEq] at h
    have hget := get_con hx hR
    rw [h] at hget
    refine con_of 154 [.tmp 6] Try.func65 rfl rfl rfl rfl ?_
    refine awp_seq_k fun K hK => ?_
    refine awp_region rfl ?_
    simp only [RR, seval]
    refine hK _ _ ?_; clear hK K
    refine awp_seq ?_
    refine awp_seq_k fun K hK => ?_
    refine awp_region rfl ?_
    simp only [hr, RR, seval]
    refine hK _ _ ?_; clear hK K
    refine awp_block ?_
    refine awp_seq_k fun K hK => ?_
    refine awp_region rfl ?_
    simp only [RR, seval]
    refine hK _ _ ?_; clear hK K
    refine awp_if false rfl (fun hc => by cases hc) (fun _ => ?_)
    refine awp_seq_k fun K hK => ?_
    refine awp_region rfl ?_
    simp only [RR, seval]
    refine hK _ _ ?_; clear hK K
    refine awp_if false rfl (fun hc => by cases hc) (fun _ => ?_)
    refine awp_seq_k fun K hK => ?_
    refine awp_region rfl ?_
    simp only [RR, seval]
    refine hK _ _ ?_; clear hK K
    refine awp_if false rfl (fun hc => by cases hc) (fun _ => ?_)
    refine awp_seq_k fun K hK => ?_
    refine awp_region rfl ?_
    simp only [RR, seval]
    refine hK _ _ ?_; clear hK K
    refine awp_if false rfl (fun hc => by cases hc) (fun _ => ?_)
    refine awp_seq_k fun K hK => ?_
    refine awp_region rfl ?_
    simp only [RR, seval]
    refine hK _ _ ?_; clear hK K
    refine awp_if true rfl (fun _ => ?_) (fun hc => by cases hc)
    refine awp_seq_k fun K hK => ?_
    refine awp_region rfl ?_
    simp only [hr, RR, seval]
    refine awpC_G hget (fun _ => trivial) (fun e s vo1 H1 e1 hR1 hk1 => by subst e1; simp only [thenQ_pan, blockQ_pan, bodyQ_pan]; exact ⟨vo1, rfl, hR1, hk1⟩) fun x s1 vo1 H1 e1 ux hR1 hk1 => ?_
    subst e1
    simp only [RR, seval]
    refine hK _ _ ?_; clear hK K
    refine awp_ret ?_; simp only [bodyQ, aresult, ares, RR, seval]
    exact Gives.run ⟨vo1, ⟨rfl, ux⟩, hR1, hk1⟩
    skip
  simp only [if_neg k1, if_neg k2, if_neg k3, if_neg k4, if_neg k5] at h
  cases hl0 : l[0]? with
  | none => rw [hl0] at h; cases h
  | some a =>
    simp only [hl0] at h
    have hg0 := cE_get (rs := rs) hl0
    by_cases k7 : k = 7
    · subst k7
      simp only [if_true] at h
      cases h1 : evE cx n rs ow a st with
      | none => rw [h1] at h; cases h
      | some r1 =>
        rw [h1] at h
        refine con_of 154 [.tmp 6] Try.func65 rfl rfl rfl rfl ?_
        refine awp_seq_k fun K hK => ?_
        refine awp_region rfl ?_
        simp only [hg0, RR, seval]
        refine hK _ _ ?_; clear hK K
        refine awp_seq ?_
        refine awp_seq_k fun K hK => ?_
        refine awp_region rfl ?_
        simp only [hr, hg0, RR, seval]
        refine hK _ _ ?_; clear hK K
        refine awp_block ?_
        refine awp_seq_k fun K hK => ?_
        refine awp_region rfl ?_
        simp only [hg0, RR, seval]
        refine hK _ _ ?_; clear hK K
        refine awp_if false rfl (fun hc => by cases hc) (fun _ => ?_)
        refine awp_seq_k fun K hK => ?_
        refine awp_region rfl ?_
        simp only [hg0, RR, seval]
        refine hK _ _ ?_; clear hK K
        refine awp_if false rfl (fun hc => by cases hc) (fun _ => ?_)
        refine awp_seq_k fun K hK => ?_
        refine awp_region rfl ?_
        simp only [hg0, RR, seval]
        refine hK _ _ ?_; clear hK K
        refine awp_if false rfl (fun hc => by cases hc) (fun _ => ?_)
        refine awp_seq_k fun K hK => ?_
        refine awp_region rfl ?_
        simp only [hg0, RR, seval]
        refine hK _ _ ?_; clear hK K
        refine awp_if false rfl (fun hc => by cases hc) (fun _ => ?_)
        refine awp_seq_k fun K hK => ?_
        refine awp_region rfl ?_
        simp only [hg0, RR, seval]
        refine hK _ _ ?_; clear hK K
        refine awp_if false rfl (fun hc => by cases hc) (fun _ => ?_)
        refine awp_seq_k fun K hK => ?_
        refine awp_region rfl ?_
        simp only [hg0, RR, seval]
        refine hK _ _ ?_; clear hK K
        refine awp_if false rfl (fun hc => by cases hc) (fun _ => ?_)
        refine awp_seq_k fun K hK => ?_
        refine awp_region rfl ?_
        simp only [hg0, RR, seval]
        refine hK _ _ ?_; clear hK K
        refine awp_if true rfl (fun _ => ?_) (fun hc => by cases hc)
        refine awp_seq ?_
        refine awp_seq_k fun K hK => ?_
        refine awp_region rfl ?_
        simp only [hr, hg0, RR, seval]
        refine awpC_G (hV a st vo H r1 (kidok hl0) hR hO h1) (fun _ => trivial) (fun e s vo1 H1 e1 hR1 hk1 => by subst e1; obtain rfl := Option.some.inj (show some (Rz.fin e s) = some o from h); simp only [thenQ_pan, blockQ_pan, bodyQ_pan]; exact ⟨vo1, rfl, hR1, hk1⟩) fun x s1 vo1 H1 e1 ux hR1 hk1 => ?_
        subst e1
        simp only [bindR] at h
        cases h
        simp only [RR, seval]
        refine hK _ _ ?_; clear hK K
        refine awp_if _ rfl (fun hc22 => ?_) (fun hc22 => ?_)
        · rw [if_pos (of_decide_eq_true hc22)]
          refine awp_seq_k fun K hK => ?_
          refine awp_region rfl ?_
          simp only [hg0, RR, seval]
          refine hK _ _ ?_; clear hK K
          refine awp_ret ?_; simp only [bodyQ, aresult, ares, hg0, RR, seval]
          exact Gives.run ⟨vo1, ⟨rfl, by simp [u32R]⟩, hR1, hk1⟩
          skip
        · rw [if_neg (of_decide_eq_false hc22)]
          refine awp_skip ?_; try simp only [RR]
          refine awp_seq_k fun K hK => ?_
          refine awp_region rfl ?_
          simp only [hg0, RR, seval]
          refine hK _ _ ?_; clear hK K
          refine awp_ret ?_; simp only [bodyQ, aresult, ares, hg0, RR, seval]
          exact Gives.run ⟨vo1, ⟨rfl, by simp [u32R]⟩, hR1, hk1⟩
          skip
    · rw [if_neg k7] at h
      cases hl1 : l[1]? with
      | none => rw [hl1] at h; cases h
      | some b =>
        simp only [hl1] at h
        have hg1 := cE_get (rs := rs) hl1
        by_cases k6 : k = 6
        · subst k6
          simp only [if_true] at h
          cases h1 : evE cx n rs ow a st with
          | none => rw [h1] at h; cases h
          | some r1 =>
            rw [h1] at h
            refine con_of 154 [.tmp 6] Try.func65 rfl rfl rfl rfl ?_
            refine awp_seq_k fun K hK => ?_
            refine awp_region rfl ?_
            simp only [hg0, hg1, RR, seval]
            refine hK _ _ ?_; clear hK K
            refine awp_seq ?_
            refine awp_seq_k fun K hK => ?_
            refine awp_region rfl ?_
            simp only [hr, hg0, hg1, RR, seval]
            refine hK _ _ ?_; clear hK K
            refine awp_block ?_
            refine awp_seq_k fun K hK => ?_
            refine awp_region rfl ?_
            simp only [hg0, hg1, RR, seval]
            refine hK _ _ ?_; clear hK K
            refine awp_if false rfl (fun hc => by cases hc) (fun _ => ?_)
            refine awp_seq_k fun K hK => ?_
            refine awp_region rfl ?_
            simp only [hg0, hg1, RR, seval]
            refine hK _ _ ?_; clear hK K
            refine awp_if false rfl (fun hc => by cases hc) (fun _ => ?_)
            refine awp_seq_k fun K hK => ?_
            refine awp_region rfl ?_
            simp only [hg0, hg1, RR, seval]
            refine hK _ _ ?_; clear hK K
            refine awp_if false rfl (fun hc => by cases hc) (fun _ => ?_)
            refine awp_seq_k fun K hK => ?_
            refine awp_region rfl ?_
            simp only [hg0, hg1, RR, seval]
            refine hK _ _ ?_; clear hK K
            refine awp_if false rfl (fun hc => by cases hc) (fun _ => ?_)
            refine awp_seq_k fun K hK => ?_
            refine awp_region rfl ?_
            simp only [hg0, hg1, RR, seval]
            refine hK _ _ ?_; clear hK K
            refine awp_if false rfl (fun hc => by cases hc) (fun _ => ?_)
            refine awp_seq_k fun K hK => ?_
            refine awp_region rfl ?_
            simp only [hg0, hg1, RR, seval]
            refine hK _ _ ?_; clear hK K
            refine awp_if true rfl (fun _ => ?_) (fun hc => by cases hc)
            refine awp_seq_k fun K hK => ?_
            refine awp_region rfl ?_
            simp only [hr, hg0, hg1, RR, seval]
            refine awpC_G (hV a st vo H r1 (kidok hl0) hR hO h1) (fun _ => trivial) (fun e s vo1 H1 e1 hR1 hk1 => by subst e1; obtain rfl := Option.some.inj (show some (Rz.fin e s) = some o from h); simp only [thenQ_pan, blockQ_pan, bodyQ_pan]; exact ⟨vo1, rfl, hR1, hk1⟩) fun x s1 vo1 H1 e1 ux hR1 hk1 => ?_
            subst e1
            simp only [bindR] at h
            have hO1 := hO.keep hR hk1
            have hr := hR1.r
            obtain ⟨r2, h2⟩ : ∃ r2, evE cx n rs ow b s1 = some r2 := by
              cases h2 : evE cx n rs ow b s1 with
              | none => rw [h2] at h; cases h
              | some r2 => exact ⟨r2, rfl⟩
            rw [h2] at h
            simp only [RR, seval]
            refine hK _ _ ?_; clear hK K
            refine awp_seq_k fun K hK => ?_
            refine awp_region rfl ?_
            simp only [hr, hg0, hg1, RR, seval]
            refine awpC_G (hV b s1 vo1 H1 r2 (kidok hl1) hR1 hO1 h2) (fun _ => trivial) (fun e s vo2 H2 e1 hR2 hk2 => by subst e1; obtain rfl := Option.some.inj (show some (Rz.fin e s) = some o from h); simp only [thenQ_pan, blockQ_pan, bodyQ_pan]; exact ⟨vo2, rfl, hR2, hk1.trans hk2⟩) fun y s2 vo2 H2 e1 uy hR2 hk2 => ?_
            subst e1
            simp only [bindR] at h
            have hr := hR2.r
            have hA := Apply_con op x y uy
            have uA := applyI_u op ux uy
            generalize applyI op x y = q at hA uA h
            obtain ⟨q1, q2⟩ := q
            simp only [RR, seval]
            refine hK _ _ ?_; clear hK K
            refine awp_seq_k fun K hK => ?_
            refine awp_region rfl ?_
            simp only [hr, hg0, hg1, RR, seval]
            refine awpC_pure' (hA) ?_
            simp only [hr, hg0, hg1, RR, seval]
            refine hK _ _ ?_; clear hK K
            refine awp_seq ?_
            refine awp_seq_k fun K hK => ?_
            refine awp_region rfl ?_
            simp only [hg0, hg1, RR, seval]
            refine hK _ _ ?_; clear hK K
            refine awp_if _ rfl (fun hc18 => ?_) (fun hc18 => ?_)
            · rw [if_neg (show ¬ q2 = 0 by simpa using hc18)] at h
              cases h
              refine awp_region rfl ?_
              simp only [hr, hg0, hg1, RR, seval]
              simp only [thenQ_pan, blockQ_pan, bodyQ_pan]
              exact ⟨vo2, rfl, hR2, hk1.trans hk2⟩
            · rw [if_pos (show q2 = 0 by simpa using hc18)] at h
              cases h
              refine awp_skip ?_; try simp only [RR]
              refine awp_seq_k fun K hK => ?_
              refine awp_region rfl ?_
              simp only [hg0, hg1, RR, seval]
              refine hK _ _ ?_; clear hK K
              refine awp_ret ?_; simp only [bodyQ, aresult, ares, hg0, hg1, RR, seval]
              exact Gives.run ⟨vo2, ⟨rfl, uA⟩, hR2, hk1.trans hk2⟩
              skip
        · rw [if_neg k6] at h
          cases h1 : evE cx n rs ow a st with
          | none => rw [h1] at h; cases h
          | some r1 =>
            rw [h1] at h
            refine con_of 154 [.tmp 6] Try.func65 rfl rfl rfl rfl ?_
            refine awp_seq_k fun K hK => ?_
            refine awp_region rfl ?_
            simp only [hg0, hg1, k1, k2, k3, k4, k5, k6, k7, RR, seval]
            refine hK _ _ ?_; clear hK K
            refine awp_seq ?_
            refine awp_seq_k fun K hK => ?_
            refine awp_region rfl ?_
            simp only [hr, hg0, hg1, k1, k2, k3, k4, k5, k6, k7, RR, seval]
            refine hK _ _ ?_; clear hK K
            refine awp_block ?_
            refine awp_seq_k fun K hK => ?_
            refine awp_region rfl ?_
            simp only [hg0, hg1, k1, k2, k3, k4, k5, k6, k7, RR, seval]
            refine hK _ _ ?_; clear hK K
            refine awp_if false rfl (fun hc => by cases hc) (fun _ => ?_)
            refine awp_seq_k fun K hK => ?_
            refine awp_region rfl ?_
            simp only [hg0, hg1, k1, k2, k3, k4, k5, k6, k7, RR, seval]
            refine hK _ _ ?_; clear hK K
            refine awp_if false rfl (fun hc => by cases hc) (fun _ => ?_)
            refine awp_seq_k fun K hK => ?_
            refine awp_region rfl ?_
            simp only [hg0, hg1, k1, k2, k3, k4, k5, k6, k7, RR, seval]
            refine hK _ _ ?_; clear hK K
            refine awp_if false rfl (fun hc => by cases hc) (fun _ => ?_)
            refine awp_seq_k fun K hK => ?_
            refine awp_region rfl ?_
            simp only [hg0, hg1, k1, k2, k3, k4, k5, k6, k7, RR, seval]
            refine hK _ _ ?_; clear hK K
            refine awp_if false rfl (fun hc => by cases hc) (fun _ => ?_)
            refine awp_seq_k fun K hK => ?_
            refine awp_region rfl ?_
            simp only [hg0, hg1, k1, k2, k3, k4, k5, k6, k7, RR, seval]
            refine hK _ _ ?_; clear hK K
            refine awp_if false rfl (fun hc => by cases hc) (fun _ => ?_)
            refine awp_seq_k fun K hK => ?_
            refine awp_region rfl ?_
            simp only [hg0, hg1, k1, k2, k3, k4, k5, k6, k7, RR, seval]
            refine hK _ _ ?_; clear hK K
            refine awp_if false rfl (fun hc => by cases hc) (fun _ => ?_)
            refine awp_seq_k fun K hK => ?_
            refine awp_region rfl ?_
            simp only [hg0, hg1, k1, k2, k3, k4, k5, k6, k7, RR, seval]
            refine hK _ _ ?_; clear hK K
            refine awp_if false rfl (fun hc => by cases hc) (fun _ => ?_)
            refine awp_skip ?_; try simp only [RR]
            refine awp_seq_k fun K hK => ?_
            refine awp_region rfl ?_
            simp only [hr, hg0, hg1, k1, k2, k3, k4, k5, k6, k7, RR, seval]
            refine awpC_G (hV a st vo H r1 (kidok hl0) hR hO h1) (fun _ => trivial) (fun e s vo1 H1 e1 hR1 hk1 => by subst e1; obtain rfl := Option.some.inj (show some (Rz.fin e s) = some o from h); simp only [thenQ_pan, blockQ_pan, bodyQ_pan]; exact ⟨vo1, rfl, hR1, hk1⟩) fun x s1 vo1 H1 e1 ux hR1 hk1 => ?_
            subst e1
            simp only [bindR] at h
            have hO1 := hO.keep hR hk1
            have hr := hR1.r
            simp only [RR, seval]
            refine hK _ _ ?_; clear hK K
            refine awp_seq ?_
            refine awp_seq_k fun K hK => ?_
            refine awp_region rfl ?_
            simp only [hr, hg0, hg1, k1, k2, k3, k4, k5, k6, k7, RR, seval]
            refine hK _ _ ?_; clear hK K
            refine awp_if _ rfl (fun hc26 => ?_) (fun hc26 => ?_)
            · rw [if_pos (of_decide_eq_true hc26)] at h
              cases h
              refine awp_seq_k fun K hK => ?_
              refine awp_region rfl ?_
              simp only [hg0, hg1, k1, k2, k3, k4, k5, k6, k7, RR, seval]
              refine hK _ _ ?_; clear hK K
              refine awp_ret ?_; simp only [bodyQ, aresult, ares, hg0, hg1, k1, k2, k3, k4, k5, k6, k7, RR, seval]
              exact Gives.run ⟨vo1, ⟨rfl, ux⟩, hR1, hk1⟩
            · rw [if_neg (of_decide_eq_false hc26)] at h
              refine awp_skip ?_; try simp only [RR]
              refine awp_seq_k fun K hK => ?_
              refine awp_region rfl ?_
              simp only [hr, hg0, hg1, k1, k2, k3, k4, k5, k6, k7, RR, seval]
              refine awpC_G (hV b s1 vo1 H1 o (kidok hl1) hR1 hO1 h) (fun _ => trivial) (fun e s vo2 H2 e1 hR2 hk2 => by subst e1; simp only [thenQ_pan, blockQ_pan, bodyQ_pan]; exact ⟨vo2, rfl, hR2, hk1.trans hk2⟩) fun y s2 vo2 H2 e1 uy hR2 hk2 => ?_
              subst e1
              simp only [RR, seval]
              refine hK _ _ ?_; clear hK K
              refine awp_ret ?_; simp only [bodyQ, aresult, ares, hg0, hg1, k1, k2, k3, k4, k5, k6, k7, RR, seval]
              exact Gives.run ⟨vo2, ⟨rfl, uy⟩, hR2, hk1.trans hk2⟩
end
end Go.Proofs.Ytlokndnkpleegaa
