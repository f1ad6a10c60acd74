/- Chapter 18, the program's: a statement. -/
import Derived.Test.YtlokndnkpleegaaM18m
set_option linter.unusedSimpArgs false
set_option linter.unusedVariables false
set_option maxRecDepth 10000
namespace Go.Proofs.Ytlokndnkpleegaa
open Go.Al
section
variable {cx : Cx} {r v : Nat} {abs : List Nat} {n : Nat}
set_option maxHeartbeats 4000000 in
theorem one_step (ih : PrgC cx r v abs n) (rs : Str → Bool × Int) (ow : List Int) (e : Sm) (st : RS) (vo : AV) (H : Hp) (bo : Nat) (o : Rz (Option Int × List Int)) (he : e.ok) (hR : RunH cx r v abs st vo H) (hO : OwnB v abs vo bo (ow.map rowU) H) (hu : ∀ x ∈ ow, u32R x) (h : evS cx (n + 1) rs ow e st = some o) :
    Con env 48 [.ptr 8 r 0 0, .ipt (cS rs e) 0, .osl 1 bo ow.length] H (postS cx r v abs vo bo ow.length H o) := by
  obtain ⟨k, s, l, t, u⟩ := e
  have hr := hR.r
  have hbo := hO.h
  have hes := he.es
  have hth := he.thn
  have hel := he.els
  simp only [Sm.es, Sm.thn, Sm.els] at hes hth hel
  have hV := fun a st vo H o h1 h2 h3 h4 => ih.V rs ow a st vo H bo o h1 h2 h3 hu h4
  have hW := fun a (hg : l[0]? = some a) (hh : evW cx n rs ow a t st = some o) => ih.W rs ow (.mk k s l t u) a st vo H bo o he hg hR hO hu hh
  simp only [evS] at h
  have hcs : cS rs (.mk k s l t u) = [.int .i64 k, .bool (rs s).1, .int .i64 (rs s).2, .isl 6 (l.map (cE rs)), .isl 6 (t.map (cS rs)), .isl 6 (u.map (cS rs))] := cS_eq rs (.mk k s l t u)
  rw [hcs] at hW ⊢
  have kidok : ∀ {j : Nat} {a : Ex}, l[j]? = some a → a.ok := fun hj => hes.all _ (List.mem_of_getElem? hj)
  clear hcs he
  generalize rs s = p at h hW ⊢
  obtain ⟨pl, pn⟩ := p
  simp only at hW ⊢
  by_cases k1 : k = 1
  · subst k1
    simp only [if_true] at h
    cases hl0 : l[0]? with
    | none => rw [hl0] at h; cases h
    | some a =>
      simp only [hl0] at h
      have hg0 := cE_get (rs := rs) hl0
      cases h1 : evE cx n rs ow a st with
      | none => rw [h1] at h; cases h
      | some r1 =>
        rw [h1] at h
        clear hW
        refine con_of 156 [.tmp 6, .tmp 7] Try.func48 rfl rfl rfl rfl ?_
        refine awp_seq_k fun K hK => ?_
        refine awp_region rfl ?_
        simp only [hg0, RR, seval]
        refine hK _ _ ?_; clear hK K
        refine awp_seq ?_
        refine awp_seq_k fun K hK => ?_
        refine awp_region rfl ?_
        simp only [hr, hbo, hg0, RR, seval]
        refine hK _ _ ?_; clear hK K
        refine awp_block ?_
        refine awp_seq_k fun K hK => ?_
        refine awp_region rfl ?_
        simp only [hg0, RR, seval]
        refine hK _ _ ?_; clear hK K
        refine awp_if true rfl (fun _ => ?_) (fun hc => by cases hc)
        refine awp_seq_k fun K hK => ?_
        refine awp_region rfl ?_
        simp only [hr, hbo, hg0, RR, seval]
        refine awpC_G (hV a st vo H r1 (kidok hl0) hR hO h1) (fun _ => trivial) ?_ ?_
        · rintro e s vo1 H1 e1 hR1 hk1
          subst e1
          obtain rfl := Option.some.inj (show some (Rz.fin e s) = some o from h)
          simp only [thenQ_pan, blockQ_pan, bodyQ_pan]
          exact ⟨vo1, rfl, hR1, hk1.s bo⟩
        intro x s1 vo1 H1 e1 ux hR1 hk1
        subst e1
        have h : (setR (pl, pn) x ow s1).map (fun p => Rz.val ((none : Option Int), p.1) p.2) = some o := h
        have hO1 := hO.keep hR hk1
        have hr := hR1.r
        have hbo := hO1.h
        have hv := hR1.v
        unfold setR at h
        by_cases z0 : 0 ≤ pn
        rotate_left
        · rw [if_neg z0] at h; cases h
        rw [if_pos z0] at h
        simp only at h
        simp only [RR, seval]
        refine hK _ _ ?_; clear hK K
        refine awp_seq_k fun K hK => ?_
        refine awp_region rfl ?_
        simp only [hr, hbo, hg0, RR, seval]
        refine hK _ _ ?_; clear hK K
        have hcase : (pl = true ∧ ∃ y, ow[pn.toNat]? = some y ∧ pn < (ow.length : Int) ∧ o = .val (none, ow.set pn.toNat x) s1) ∨ (pl = false ∧ ∃ y, s1.vars[pn.toNat]? = some y ∧ pn < (s1.vars.length : Int) ∧ o = .val (none, ow) { s1 with vars := s1.vars.set pn.toNat x }) := by
          cases pl with
          | true =>
            rw [if_pos rfl] at h
            by_cases hl : pn.toNat < ow.length
            · rw [if_pos hl] at h
              exact .inl ⟨rfl, _, List.getElem?_eq_getElem hl, by omega, (Option.some.inj h).symm⟩
            · rw [if_neg hl] at h; cases h
          | false =>
            rw [if_neg (by simp)] at h
            by_cases hl : pn.toNat < s1.vars.length
            · rw [if_pos hl] at h
              exact .inr ⟨rfl, _, List.getElem?_eq_getElem hl, by omega, (Option.some.inj h).symm⟩
            · rw [if_neg hl] at h; cases h
        refine awp_if _ rfl (fun hc4 => ?_) (fun hc4 => ?_)
        · rcases hcase with ⟨_, y, hy, zl, rfl⟩ | ⟨hpl, _⟩
          rotate_left
          · rw [hpl] at hc4; cases hc4
          have hgy := rowU_get hy
          refine awp_region rfl ?_
          simp only [hr, hbo, hg0, z0, zl, hgy, RR, seval]
          have hw1 : ∃ w, w = (ow.set pn.toNat x).length := ⟨_, rfl⟩
          have g1 := hR1.own hO1 (some (.rows 1 ((ow.map rowU).set pn.toNat [.int .u32 x])))
          have g2 : OwnB v abs vo1 bo ((ow.set pn.toNat x).map rowU) (upd H1 bo (some (.rows 1 ((ow.map rowU).set pn.toNat [.int .u32 x])))) := by rw [← map_set_U]; exact hO1.set
          have g3 := (hk1.s bo).set (some (.rows 1 ((ow.map rowU).set pn.toNat [.int .u32 x])))
          have g4 : (ow.set pn.toNat x).length = ow.length := by simp
          have g5 : ∀ y ∈ ow.set pn.toNat x, u32R y := fun y hy => by
            rcases List.mem_or_eq_of_mem_set hy with hy | rfl
            · exact hu y hy
            · exact ux
          refine awp_seq_k fun K hK => ?_
          refine awp_region rfl ?_
          simp only [hg0, z0, zl, hgy, RR, seval]
          refine hK _ _ ?_; clear hK K
          refine awp_ret ?_; simp only [bodyQ, aresult, ares, hg0, z0, zl, hgy, RR, seval]
          exact Gives.run ⟨vo1, ⟨rfl, by simp [u32R], g4, g5, g2⟩, g1, g3⟩
          skip
        · rcases hcase with ⟨hpl, _⟩ | ⟨_, y, hy, zl, rfl⟩
          · rw [hpl] at hc4; cases hc4
          have hgy := rowU_get hy
          refine awp_region_draw2 (fun _ => True) [(0, 3), (1, 3), (2, 3), (3, 1), (4, 3), (5, 3), (6, 3), (7, 1), (8, 3), (9, 3)] [(10, 1)] draws (by kernel_rfl) rfl rfl ?_
          simp only [emitF, markOf, EM, hr, hbo, hv, hg0, z0, zl, hgy, RR, seval]
          have g1 := hR1.setV pn.toNat x ux
          have g2 := hO1.other hO1.nv (some (.rows 1 ((s1.vars.map rowU).set pn.toNat [.int .u32 x])))
          have g3 := (hk1.trans (keepsR.vars (some (.rows 1 ((s1.vars.map rowU).set pn.toNat [.int .u32 x]))))).s bo
          have g4 : ow.length = ow.length := rfl
          have g5 := hu
          refine awp_seq_k fun K hK => ?_
          refine awp_region rfl ?_
          simp only [hg0, z0, zl, hgy, RR, seval]
          refine hK _ _ ?_; clear hK K
          refine awp_ret ?_; simp only [bodyQ, aresult, ares, hg0, z0, zl, hgy, RR, seval]
          exact Gives.run ⟨vo1, ⟨rfl, by simp [u32R], g4, g5, g2⟩, g1, g3⟩
          skip
  by_cases k2 : k = 2
  · subst k2
    simp only [show ¬ (2 : Int) = 1 by decide, if_false, if_true] at h
    cases hl0 : l[0]? with
    | none => rw [hl0] at h; cases h
    | some a =>
    cases hl1 : l[1]? with
    | none => rw [hl0, hl1] at h; cases h
    | some b =>
      simp only [hl0, hl1] at h
      have hg0 := cE_get (rs := rs) hl0
      have hg1 := cE_get (rs := rs) hl1
      cases h1 : evE cx n rs ow a st with
      | none => rw [h1] at h; cases h
      | some r1 =>
        rw [h1] at h
        clear hW
        refine con_of 156 [.tmp 6, .tmp 7] Try.func48 rfl rfl rfl rfl ?_
        refine awp_seq_k fun K hK => ?_
        refine awp_region rfl ?_
        simp only [hg0, hg1, RR, seval]
        refine hK _ _ ?_; clear hK K
        refine awp_seq ?_
        refine awp_seq_k fun K hK => ?_
        refine awp_region rfl ?_
        simp only [hr, hg0, hg1, RR, seval]
        refine hK _ _ ?_; clear hK K
        refine awp_block ?_
        refine awp_seq_k fun K hK => ?_
        refine awp_region rfl ?_
        simp only [hg0, hg1, RR, seval]
        refine hK _ _ ?_; clear hK K
        refine awp_if false rfl (fun hc => by cases hc) (fun _ => ?_)
        refine awp_seq_k fun K hK => ?_
        refine awp_region rfl ?_
        simp only [hg0, hg1, RR, seval]
        refine hK _ _ ?_; clear hK K
        refine awp_if true rfl (fun _ => ?_) (fun hc => by cases hc)
        refine awp_seq_k fun K hK => ?_
        refine awp_region rfl ?_
        simp only [hr, hg0, hg1, RR, seval]
        refine awpC_G (hV a st vo H r1 (kidok hl0) hR hO h1) (fun _ => trivial) ?_ ?_
        · rintro e s vo1 H1 e1 hR1 hk1
          subst e1
          obtain rfl := Option.some.inj (show some (Rz.fin e s) = some o from h)
          simp only [thenQ_pan, blockQ_pan, bodyQ_pan]
          exact ⟨vo1, rfl, hR1, hk1.s bo⟩
        intro x s1 vo1 H1 e1 ux hR1 hk1
        subst e1
        simp only [bindR] at h
        have hO1 := hO.keep hR hk1
        have hr := hR1.r
        obtain ⟨r2, h2⟩ : ∃ r2, evE cx n rs ow b s1 = some r2 := by
          cases h2 : evE cx n rs ow b s1 with
          | none => rw [h2] at h; cases h
          | some r2 => exact ⟨r2, rfl⟩
        rw [h2] at h
        simp only [RR, seval]
        refine hK _ _ ?_; clear hK K
        refine awp_seq_k fun K hK => ?_
        refine awp_region rfl ?_
        simp only [hr, hg0, hg1, RR, seval]
        refine awpC_G (hV b s1 vo1 H1 r2 (kidok hl1) hR1 hO1 h2) (fun _ => trivial) ?_ ?_
        · rintro e s vo2 H2 e1 hR2 hk2
          subst e1
          obtain rfl := Option.some.inj (show some (Rz.fin e s) = some o from h)
          simp only [thenQ_pan, blockQ_pan, bodyQ_pan]
          exact ⟨vo2, rfl, hR2, (hk1.trans hk2).s bo⟩
        intro y s2 vo2 H2 e1 uy hR2 hk2
        subst e1
        simp only [bindR] at h
        have hO2 := hO1.keep hR1 hk2
        have hr := hR2.r
        by_cases z0 : 0 ≤ pn
        rotate_left
        · rw [if_neg z0] at h; cases h
        rw [if_pos z0] at h
        obtain ⟨i, rfl⟩ := Int.eq_ofNat_of_zero_le z0
        simp only [Int.toNat_natCast, atR] at h
        obtain ⟨la, hla⟩ : ∃ la, s2.arrs[i]? = some la := by
          cases hla : s2.arrs[i]? with
          | none => rw [hla] at h; cases h
          | some la => exact ⟨la, rfl⟩
        rw [hla] at h
        simp only at h
        have hl : i < abs.length := by rw [hR2.al]; exact (List.getElem?_eq_some_iff.1 hla).1
        have hb := List.getElem?_eq_getElem hl
        generalize abs[i] = ba at hb
        have hc := at_con hR2 ux hb hla
        simp only [RR, seval]
        refine hK _ _ ?_; clear hK K
        refine awp_region rfl ?_
        simp only [hr, hg0, hg1, RR, seval]
        by_cases hxl : x.toNat < la.length
        rotate_left
        · rw [if_neg hxl] at hc h
          obtain rfl := Option.some.inj (show some (Rz.fin 3 s2) = some o from h)
          refine awpC_G hc (fun _ => trivial) ?_ ?_
          · intro e s vo3 H3 e2 hR3 hk3
            cases e2
            simp only [thenQ_pan, blockQ_pan, bodyQ_pan]
            exact ⟨vo3, rfl, hR3, ((hk1.trans hk2).trans hk3).s bo⟩
          · intro _ _ _ _ e2
            cases e2
        rw [if_pos hxl] at hc h
        refine awpC_G hc (fun _ => trivial) ?_ ?_
        · intro _ _ _ _ e2
          cases e2
        intro j s3 vo3 H3 e2 hj hR3 hk3
        cases e2
        obtain rfl := Option.some.inj (show some (Rz.val ((none : Option Int), ow) (storeR i x.toNat y s2)) = some o from h)
        have hO3 := hO2.keep hR2 hk3
        have hbb := hR3.a i ba la hb hla
        have hgy := rowU_get (List.getElem?_eq_getElem hj)
        have hm := List.mem_of_getElem? hb
        have g1 := hR3.setA hb hla x.toNat y uy
        have g2 := hO3.other (fun e => hO3.na (by rw [e]; exact hm)) (some (.rows 1 ((la.map rowU).set x.toNat [.int .u32 y])))
        have g3 := (((hk1.trans hk2).trans hk3).trans (keepsR.arr hm (some (.rows 1 ((la.map rowU).set x.toNat [.int .u32 y]))))).s bo
        simp only [hbb, hgy, RR, seval]
        refine awp_seq_k fun K hK => ?_
        refine awp_region rfl ?_
        simp only [hg0, hg1, RR, seval]
        refine hK _ _ ?_; clear hK K
        refine awp_ret ?_; simp only [bodyQ, aresult, ares, hg0, hg1, RR, seval]
        exact Gives.run ⟨vo3, ⟨rfl, by simp [u32R], rfl, hu, g2⟩, g1, g3⟩
        skip
  by_cases k3 : k = 3
  · subst k3
    simp only [show ¬ (3 : Int) = 1 by decide, show ¬ (3 : Int) = 2 by decide, if_false, if_true] at h
    cases hl0 : l[0]? with
    | none => rw [hl0] at h; cases h
    | some a =>
      simp only [hl0] at h
      have hg0 := cE_get (rs := rs) hl0
      cases h1 : evE cx n rs ow a st with
      | none => rw [h1] at h; cases h
      | some r1 =>
        rw [h1] at h
        clear hW
        refine con_of 156 [.tmp 6, .tmp 7] Try.func48 rfl rfl rfl rfl ?_
        refine awp_seq_k fun K hK => ?_
        refine awp_region rfl ?_
        simp only [hg0, RR, seval]
        refine hK _ _ ?_; clear hK K
        refine awp_seq ?_
        refine awp_seq_k fun K hK => ?_
        refine awp_region rfl ?_
        simp only [hr, hg0, RR, seval]
        refine hK _ _ ?_; clear hK K
        refine awp_block ?_
        refine awp_seq_k fun K hK => ?_
        refine awp_region rfl ?_
        simp only [hg0, RR, seval]
        refine hK _ _ ?_; clear hK K
        refine awp_if false rfl (fun hc => by cases hc) (fun _ => ?_)
        refine awp_seq_k fun K hK => ?_
        refine awp_region rfl ?_
        simp only [hg0, RR, seval]
        refine hK _ _ ?_; clear hK K
        refine awp_if false rfl (fun hc => by cases hc) (fun _ => ?_)
        refine awp_seq_k fun K hK => ?_
        refine awp_region rfl ?_
        simp only [hg0, RR, seval]
        refine hK _ _ ?_; clear hK K
        refine awp_if true rfl (fun _ => ?_) (fun hc => by cases hc)
        refine awp_region rfl ?_
        simp only [hr, hg0, RR, seval]
        refine awpC_G (hV a st vo H r1 (kidok hl0) hR hO h1) (fun _ => trivial) ?_ ?_
        · rintro e s vo1 H1 e1 hR1 hk1
          subst e1
          obtain rfl := Option.some.inj (show some (Rz.fin e s) = some o from h)
          simp only [thenQ_pan, blockQ_pan, bodyQ_pan]
          exact ⟨vo1, rfl, hR1, hk1.s bo⟩
        intro x s1 vo1 H1 e1 ux hR1 hk1
        subst e1
        simp only [bindR] at h
        have hO1 := hO.keep hR hk1
        have hP := put_con hR1 x
        generalize hpp : putR x s1 = pp at h hP
        simp only [RR, seval]
        refine awpC_G hP (fun _ => trivial) ?_ ?_
        · rintro e s vo2 H2 e1 hR2 hk2
          subst e1
          obtain rfl := Option.some.inj (show some (Rz.fin e s) = some o from h)
          simp only [thenQ_pan, blockQ_pan, bodyQ_pan]
          exact ⟨vo2, rfl, hR2, (hk1.trans hk2).s bo⟩
        intro _ s2 vo2 H2 e1 _ hR2 hk2
        subst e1
        obtain rfl := Option.some.inj (show some (Rz.val ((none : Option Int), ow) s2) = some o from h)
        have hO2 := hO1.keep hR1 hk2
        simp only [RR, seval]
        refine awp_seq_k fun K hK => ?_
        refine awp_region rfl ?_
        simp only [hg0, RR, seval]
        refine hK _ _ ?_; clear hK K
        refine awp_ret ?_; simp only [bodyQ, aresult, ares, hg0, RR, seval]
        exact Gives.run ⟨vo2, ⟨rfl, by simp [u32R], rfl, hu, hO2⟩, hR2, (hk1.trans hk2).s bo⟩
        skip
  by_cases k4 : k = 4
  · subst k4
    simp only [show ¬ (4 : Int) = 1 by decide, show ¬ (4 : Int) = 2 by decide, show ¬ (4 : Int) = 3 by decide, if_false, if_true] at h
    cases hl0 : l[0]? with
    | none => rw [hl0] at h; cases h
    | some a =>
      simp only [hl0] at h
      have hg0 := cE_get (rs := rs) hl0
      cases h1 : evE cx n rs ow a st with
      | none => rw [h1] at h; cases h
      | some r1 =>
        rw [h1] at h
        clear hW
        refine con_of 156 [.tmp 6, .tmp 7] Try.func48 rfl rfl rfl rfl ?_
        refine awp_seq_k fun K hK => ?_
        refine awp_region rfl ?_
        simp only [hg0, RR, seval]
        refine hK _ _ ?_; clear hK K
        refine awp_seq ?_
        refine awp_seq_k fun K hK => ?_
        refine awp_region rfl ?_
        simp only [hr, hg0, RR, seval]
        refine hK _ _ ?_; clear hK K
        refine awp_block ?_
        refine awp_seq_k fun K hK => ?_
        refine awp_region rfl ?_
        simp only [hg0, RR, seval]
        refine hK _ _ ?_; clear hK K
        refine awp_if false rfl (fun hc => by cases hc) (fun _ => ?_)
        refine awp_seq_k fun K hK => ?_
        refine awp_region rfl ?_
        simp only [hg0, RR, seval]
        refine hK _ _ ?_; clear hK K
        refine awp_if false rfl (fun hc => by cases hc) (fun _ => ?_)
        refine awp_seq_k fun K hK => ?_
        refine awp_region rfl ?_
        simp only [hg0, RR, seval]
        refine hK _ _ ?_; clear hK K
        refine awp_if false rfl (fun hc => by cases hc) (fun _ => ?_)
        refine awp_seq_k fun K hK => ?_
        refine awp_region rfl ?_
        simp only [hg0, RR, seval]
        refine hK _ _ ?_; clear hK K
        refine awp_if true rfl (fun _ => ?_) (fun hc => by cases hc)
        refine awp_seq ?_
        refine awp_seq_k fun K hK => ?_
        refine awp_region rfl ?_
        simp only [hr, hg0, RR, seval]
        refine awpC_G (hV a st vo H r1 (kidok hl0) hR hO h1) (fun _ => trivial) ?_ ?_
        · rintro e s vo1 H1 e1 hR1 hk1
          subst e1
          obtain rfl := Option.some.inj (show some (Rz.fin e s) = some o from h)
          simp only [thenQ_pan, blockQ_pan, bodyQ_pan]
          exact ⟨vo1, rfl, hR1, hk1.s bo⟩
        intro x s1 vo1 H1 e1 ux hR1 hk1
        subst e1
        simp only [bindR] at h
        have hO1 := hO.keep hR hk1
        have hr := hR1.r
        simp only [RR, seval]
        refine hK _ _ ?_; clear hK K
        refine awp_if _ rfl (fun hc14 => ?_) (fun hc14 => ?_)
        · rw [if_neg (show ¬ x = 0 by simpa using hc14)] at h
          have hL := ih.L rs ow t s1 vo1 H1 bo o hth hR1 hO1 hu h
          refine awp_seq_k fun K hK => ?_
          refine awp_region rfl ?_
          simp only [hr, hg0, RR, seval]
          refine awpC_S hL (fun _ => trivial) ?_ ?_
          · rintro e s vo2 H2 e1 hR2 hk2
            subst e1
            simp only [thenQ_pan, blockQ_pan, bodyQ_pan]
            exact ⟨vo2, rfl, hR2, (hk1.s bo).trans hk2⟩
          intro p s2 vo2 H2 e1 up hwp hup hO2 hR2 hk2
          subst e1
          simp only [RR, seval]
          refine hK _ _ ?_; clear hK K
          refine awp_ret ?_; simp only [bodyQ, aresult, ares, hg0, RR, seval]
          exact Gives.run ⟨vo2, ⟨rfl, up, hwp, hup, hO2⟩, hR2, (hk1.s bo).trans hk2⟩
          skip
        · rw [if_pos (show x = 0 by simpa using hc14)] at h
          have hL := ih.L rs ow u s1 vo1 H1 bo o hel hR1 hO1 hu h
          refine awp_skip ?_; try simp only [RR]
          refine awp_seq_k fun K hK => ?_
          refine awp_region rfl ?_
          simp only [hr, hg0, RR, seval]
          refine awpC_S hL (fun _ => trivial) ?_ ?_
          · rintro e s vo2 H2 e1 hR2 hk2
            subst e1
            simp only [thenQ_pan, blockQ_pan, bodyQ_pan]
            exact ⟨vo2, rfl, hR2, (hk1.s bo).trans hk2⟩
          intro p s2 vo2 H2 e1 up hwp hup hO2 hR2 hk2
          subst e1
          simp only [RR, seval]
          refine hK _ _ ?_; clear hK K
          refine awp_ret ?_; simp only [bodyQ, aresult, ares, hg0, RR, seval]
          exact Gives.run ⟨vo2, ⟨rfl, up, hwp, hup, hO2⟩, hR2, (hk1.s bo).trans hk2⟩
          skip
  by_cases k5 : k = 5
  · subst k5
    simp only [show ¬ (5 : Int) = 1 by decide, show ¬ (5 : Int) = 2 by decide, show ¬ (5 : Int) = 3 by decide, show ¬ (5 : Int) = 4 by decide, if_false, if_true] at h
    cases hl0 : l[0]? with
    | none => rw [hl0] at h; cases h
    | some a =>
      simp only [hl0] at h
      have hWW := hW a hl0 h
      clear hW
      refine con_of 156 [.tmp 6, .tmp 7] Try.func48 rfl rfl rfl rfl ?_
      refine awp_seq_k fun K hK => ?_
      refine awp_region rfl ?_
      simp only [RR, seval]
      refine hK _ _ ?_; clear hK K
      refine awp_seq ?_
      refine awp_seq_k fun K hK => ?_
      refine awp_region rfl ?_
      simp only [hr, RR, seval]
      refine hK _ _ ?_; clear hK K
      refine awp_block ?_
      refine awp_seq_k fun K hK => ?_
      refine awp_region rfl ?_
      simp only [RR, seval]
      refine hK _ _ ?_; clear hK K
      refine awp_if false rfl (fun hc => by cases hc) (fun _ => ?_)
      refine awp_seq_k fun K hK => ?_
      refine awp_region rfl ?_
      simp only [RR, seval]
      refine hK _ _ ?_; clear hK K
      refine awp_if false rfl (fun hc => by cases hc) (fun _ => ?_)
      refine awp_seq_k fun K hK => ?_
      refine awp_region rfl ?_
      simp only [RR, seval]
      refine hK _ _ ?_; clear hK K
      refine awp_if false rfl (fun hc => by cases hc) (fun _ => ?_)
      refine awp_seq_k fun K hK => ?_
      refine awp_region rfl ?_
      simp only [RR, seval]
      refine hK _ _ ?_; clear hK K
      refine awp_if false rfl (fun hc => by cases hc) (fun _ => ?_)
      refine awp_seq_k fun K hK => ?_
      refine awp_region rfl ?_
      simp only [RR, seval]
      refine hK _ _ ?_; clear hK K
      refine awp_if true rfl (fun _ => ?_) (fun hc => by cases hc)
      refine awp_seq_k fun K hK => ?_
      refine awp_region rfl ?_
      simp only [hr, RR, seval]
      refine awpC_S hWW (fun _ => trivial) ?_ ?_
      · rintro e s vo2 H2 e1 hR2 hk2
        subst e1
        simp only [thenQ_pan, blockQ_pan, bodyQ_pan]
        exact ⟨vo2, rfl, hR2, hk2⟩
      intro p s2 vo2 H2 e1 up hwp hup hO2 hR2 hk2
      subst e1
      simp only [RR, seval]
      refine hK _ _ ?_; clear hK K
      refine awp_ret ?_; simp only [bodyQ, aresult, ares, RR, seval]
      exact Gives.run ⟨vo2, ⟨rfl, up, hwp, hup, hO2⟩, hR2, hk2⟩
      skip
  clear hW
  by_cases k6 : k = 6
  · subst k6
    simp only [show ¬ (6 : Int) = 1 by decide, show ¬ (6 : Int) = 2 by decide, show ¬ (6 : Int) = 3 by decide, show ¬ (6 : Int) = 4 by decide, show ¬ (6 : Int) = 5 by decide, if_false, if_true] at h
    obtain ⟨f, z0, hf⟩ : ∃ f, 0 ≤ pn ∧ cx.funs[pn.toNat]? = some f := by
      cases n with
      | zero => simp [evC, bindR] at h
      | succ n =>
        simp only [evC] at h
        by_cases z : pn < 0
        · rw [if_pos z] at h; cases h
        · rw [if_neg z] at h
          cases hf : cx.funs[pn.toNat]? with
          | none => rw [hf] at h; cases h
          | some f => exact ⟨f, by omega, rfl⟩
    have hfr : (cx.funs.map Cf.row)[pn.toNat]? = some f.row := by rw [List.getElem?_map, hf]; rfl
    cases h1 : evC cx n rs ow pn l st with
    | none => rw [h1] at h; cases h
    | some r1 =>
      rw [h1] at h
      have hcall := ih.C rs ow pn f l st vo H bo r1 hes z0 hf hR hO hu h1
      refine con_of 156 [.tmp 6, .tmp 7] Try.func48 rfl rfl rfl rfl ?_
      refine awp_seq_k fun K hK => ?_
      refine awp_region rfl ?_
      simp only [z0, hfr, RR, seval]
      refine hK _ _ ?_; clear hK K
      refine awp_seq ?_
      refine awp_seq_k fun K hK => ?_
      refine awp_region rfl ?_
      simp only [hr, z0, hfr, RR, seval]
      refine hK _ _ ?_; clear hK K
      refine awp_block ?_
      refine awp_seq_k fun K hK => ?_
      refine awp_region rfl ?_
      simp only [z0, hfr, RR, seval]
      refine hK _ _ ?_; clear hK K
      refine awp_if false rfl (fun hc => by cases hc) (fun _ => ?_)
      refine awp_seq_k fun K hK => ?_
      refine awp_region rfl ?_
      simp only [z0, hfr, RR, seval]
      refine hK _ _ ?_; clear hK K
      refine awp_if false rfl (fun hc => by cases hc) (fun _ => ?_)
      refine awp_seq_k fun K hK => ?_
      refine awp_region rfl ?_
      simp only [z0, hfr, RR, seval]
      refine hK _ _ ?_; clear hK K
      refine awp_if false rfl (fun hc => by cases hc) (fun _ => ?_)
      refine awp_seq_k fun K hK => ?_
      refine awp_region rfl ?_
      simp only [z0, hfr, RR, seval]
      refine hK _ _ ?_; clear hK K
      refine awp_if false rfl (fun hc => by cases hc) (fun _ => ?_)
      refine awp_seq_k fun K hK => ?_
      refine awp_region rfl ?_
      simp only [z0, hfr, RR, seval]
      refine hK _ _ ?_; clear hK K
      refine awp_if false rfl (fun hc => by cases hc) (fun _ => ?_)
      refine awp_seq_k fun K hK => ?_
      refine awp_region rfl ?_
      simp only [z0, hfr, RR, seval]
      refine hK _ _ ?_; clear hK K
      refine awp_if true rfl (fun _ => ?_) (fun hc => by cases hc)
      refine awp_region_draw2 (fun _ => True) [(0, 3), (1, 3), (2, 3), (3, 3), (4, 1), (5, 3), (6, 3), (7, 3), (8, 1), (9, 3), (10, 3), (11, 3), (12, 3), (13, 1), (14, 3), (15, 1)] [] draws (by kernel_rfl) rfl rfl ?_
      simp only [emitF, markOf, EM, hr, z0, hfr, RR, seval]
      refine awpC_G hcall (fun _ => trivial) ?_ ?_
      · rintro e s vo1 H1 e1 hR1 hk1
        subst e1
        obtain rfl := Option.some.inj (show some (Rz.fin e s) = some o from h)
        simp only [thenQ_pan, blockQ_pan, bodyQ_pan]
        exact ⟨vo1, rfl, hR1, hk1.s bo⟩
      intro x s1 vo1 H1 e1 ux hR1 hk1
      subst e1
      obtain rfl := Option.some.inj (show some (Rz.val ((none : Option Int), ow) s1) = some o from h)
      have hO1 := hO.keep hR hk1
      simp only [RR, seval]
      refine awp_seq_k fun K hK => ?_
      refine awp_region rfl ?_
      simp only [z0, hfr, RR, seval]
      refine hK _ _ ?_; clear hK K
      refine awp_ret ?_; simp only [bodyQ, aresult, ares, z0, hfr, RR, seval]
      exact Gives.run ⟨vo1, ⟨rfl, by simp [u32R], rfl, hu, hO1⟩, hR1, hk1.s bo⟩
      skip
  by_cases k7 : k = 7
  · subst k7
    simp only [show ¬ (7 : Int) = 1 by decide, show ¬ (7 : Int) = 2 by decide, show ¬ (7 : Int) = 3 by decide, show ¬ (7 : Int) = 4 by decide, show ¬ (7 : Int) = 5 by decide, show ¬ (7 : Int) = 6 by decide, if_false, if_true] at h
    cases hl0 : l[0]? with
    | none =>
      simp only [hl0] at h
      obtain rfl := Option.some.inj h
      have hle : l = [] := by cases l with | nil => rfl | cons a l => simp at hl0
      subst hle
      refine con_of 156 [.tmp 6, .tmp 7] Try.func48 rfl rfl rfl rfl ?_
      refine awp_seq_k fun K hK => ?_
      refine awp_region rfl ?_
      simp only [List.map_nil, RR, seval]
      refine hK _ _ ?_; clear hK K
      refine awp_seq ?_
      refine awp_seq_k fun K hK => ?_
      refine awp_region rfl ?_
      simp only [hr, List.map_nil, RR, seval]
      refine hK _ _ ?_; clear hK K
      refine awp_block ?_
      refine awp_seq_k fun K hK => ?_
      refine awp_region rfl ?_
      simp only [List.map_nil, RR, seval]
      refine hK _ _ ?_; clear hK K
      refine awp_if false rfl (fun hc => by cases hc) (fun _ => ?_)
      refine awp_seq_k fun K hK => ?_
      refine awp_region rfl ?_
      simp only [List.map_nil, RR, seval]
      refine hK _ _ ?_; clear hK K
      refine awp_if false rfl (fun hc => by cases hc) (fun _ => ?_)
      refine awp_seq_k fun K hK => ?_
      refine awp_region rfl ?_
      simp only [List.map_nil, RR, seval]
      refine hK _ _ ?_; clear hK K
      refine awp_if false rfl (fun hc => by cases hc) (fun _ => ?_)
      refine awp_seq_k fun K hK => ?_
      refine awp_region rfl ?_
      simp only [List.map_nil, RR, seval]
      refine hK _ _ ?_; clear hK K
      refine awp_if false rfl (fun hc => by cases hc) (fun _ => ?_)
      refine awp_seq_k fun K hK => ?_
      refine awp_region rfl ?_
      simp only [List.map_nil, RR, seval]
      refine hK _ _ ?_; clear hK K
      refine awp_if false rfl (fun hc => by cases hc) (fun _ => ?_)
      refine awp_seq_k fun K hK => ?_
      refine awp_region rfl ?_
      simp only [List.map_nil, RR, seval]
      refine hK _ _ ?_; clear hK K
      refine awp_if false rfl (fun hc => by cases hc) (fun _ => ?_)
      refine awp_seq_k fun K hK => ?_
      refine awp_region rfl ?_
      simp only [List.map_nil, RR, seval]
      refine hK _ _ ?_; clear hK K
      refine awp_if true rfl (fun _ => ?_) (fun hc => by cases hc)
      refine awp_seq ?_
      refine awp_seq_k fun K hK => ?_
      refine awp_region rfl ?_
      simp only [hr, List.map_nil, RR, seval]
      refine hK _ _ ?_; clear hK K
      refine awp_if false rfl (fun hc => by cases hc) (fun _ => ?_)
      refine awp_skip ?_; try simp only [RR]
      refine awp_seq_k fun K hK => ?_
      refine awp_region rfl ?_
      simp only [List.map_nil, RR, seval]
      refine hK _ _ ?_; clear hK K
      refine awp_ret ?_; simp only [bodyQ, aresult, ares, List.map_nil, RR, seval]
      exact Gives.run ⟨vo, ⟨rfl, by simp [u32R], rfl, hu, hO⟩, hR, (keepsR.refl _ _ _ _ _).s bo⟩
      skip
    | some a =>
      simp only [hl0] at h
      have hg0 := cE_get (rs := rs) hl0
      have zl : (0 : Int) < (l.length : Int) := by have := (List.getElem?_eq_some_iff.1 hl0).1; omega
      cases h1 : evE cx n rs ow a st with
      | none => rw [h1] at h; cases h
      | some r1 =>
        rw [h1] at h
        refine con_of 156 [.tmp 6, .tmp 7] Try.func48 rfl rfl rfl rfl ?_
        refine awp_seq_k fun K hK => ?_
        refine awp_region rfl ?_
        simp only [hg0, zl, List.length_map, RR, seval]
        refine hK _ _ ?_; clear hK K
        refine awp_seq ?_
        refine awp_seq_k fun K hK => ?_
        refine awp_region rfl ?_
        simp only [hr, hg0, zl, List.length_map, RR, seval]
        refine hK _ _ ?_; clear hK K
        refine awp_block ?_
        refine awp_seq_k fun K hK => ?_
        refine awp_region rfl ?_
        simp only [hg0, zl, List.length_map, RR, seval]
        refine hK _ _ ?_; clear hK K
        refine awp_if false rfl (fun hc => by cases hc) (fun _ => ?_)
        refine awp_seq_k fun K hK => ?_
        refine awp_region rfl ?_
        simp only [hg0, zl, List.length_map, RR, seval]
        refine hK _ _ ?_; clear hK K
        refine awp_if false rfl (fun hc => by cases hc) (fun _ => ?_)
        refine awp_seq_k fun K hK => ?_
        refine awp_region rfl ?_
        simp only [hg0, zl, List.length_map, RR, seval]
        refine hK _ _ ?_; clear hK K
        refine awp_if false rfl (fun hc => by cases hc) (fun _ => ?_)
        refine awp_seq_k fun K hK => ?_
        refine awp_region rfl ?_
        simp only [hg0, zl, List.length_map, RR, seval]
        refine hK _ _ ?_; clear hK K
        refine awp_if false rfl (fun hc => by cases hc) (fun _ => ?_)
        refine awp_seq_k fun K hK => ?_
        refine awp_region rfl ?_
        simp only [hg0, zl, List.length_map, RR, seval]
        refine hK _ _ ?_; clear hK K
        refine awp_if false rfl (fun hc => by cases hc) (fun _ => ?_)
        refine awp_seq_k fun K hK => ?_
        refine awp_region rfl ?_
        simp only [hg0, zl, List.length_map, RR, seval]
        refine hK _ _ ?_; clear hK K
        refine awp_if false rfl (fun hc => by cases hc) (fun _ => ?_)
        refine awp_seq_k fun K hK => ?_
        refine awp_region rfl ?_
        simp only [hg0, zl, List.length_map, RR, seval]
        refine hK _ _ ?_; clear hK K
        refine awp_if true rfl (fun _ => ?_) (fun hc => by cases hc)
        refine awp_seq ?_
        refine awp_seq_k fun K hK => ?_
        refine awp_region rfl ?_
        simp only [hr, hg0, zl, List.length_map, RR, seval]
        refine hK _ _ ?_; clear hK K
        refine awp_if true rfl (fun _ => ?_) (fun hc => by cases hc)
        refine awp_seq_k fun K hK => ?_
        refine awp_region rfl ?_
        simp only [hr, hg0, zl, List.length_map, RR, seval]
        refine awpC_G (hV a st vo H r1 (kidok hl0) hR hO h1) (fun _ => trivial) ?_ ?_
        · rintro e s vo1 H1 e1 hR1 hk1
          subst e1
          obtain rfl := Option.some.inj (show some (Rz.fin e s) = some o from h)
          simp only [thenQ_pan, blockQ_pan, bodyQ_pan]
          exact ⟨vo1, rfl, hR1, hk1.s bo⟩
        intro x s1 vo1 H1 e1 ux hR1 hk1
        subst e1
        obtain rfl := Option.some.inj (show some (Rz.val (some x, ow) s1) = some o from h)
        have hO1 := hO.keep hR hk1
        simp only [RR, seval]
        refine hK _ _ ?_; clear hK K
        refine awp_ret ?_; simp only [bodyQ, aresult, ares, hg0, zl, List.length_map, RR, seval]
        exact Gives.run ⟨vo1, ⟨rfl, ux, rfl, hu, hO1⟩, hR1, hk1.s bo⟩
        skip
  simp only [if_neg k1, if_neg k2, if_neg k3, if_neg k4, if_neg k5, if_neg k6, if_neg k7] at h
  obtain rfl := Option.some.inj h
  refine con_of 156 [.tmp 6, .tmp 7] Try.func48 rfl rfl rfl rfl ?_
  refine awp_seq_k fun K hK => ?_
  refine awp_region rfl ?_
  simp only [k1, k2, k3, k4, k5, k6, k7, RR, seval]
  refine hK _ _ ?_; clear hK K
  refine awp_seq ?_
  refine awp_seq_k fun K hK => ?_
  refine awp_region rfl ?_
  simp only [hr, k1, k2, k3, k4, k5, k6, k7, RR, seval]
  refine hK _ _ ?_; clear hK K
  refine awp_block ?_
  refine awp_seq_k fun K hK => ?_
  refine awp_region rfl ?_
  simp only [k1, k2, k3, k4, k5, k6, k7, RR, seval]
  refine hK _ _ ?_; clear hK K
  refine awp_if false rfl (fun hc => by cases hc) (fun _ => ?_)
  refine awp_seq_k fun K hK => ?_
  refine awp_region rfl ?_
  simp only [k1, k2, k3, k4, k5, k6, k7, RR, seval]
  refine hK _ _ ?_; clear hK K
  refine awp_if false rfl (fun hc => by cases hc) (fun _ => ?_)
  refine awp_seq_k fun K hK => ?_
  refine awp_region rfl ?_
  simp only [k1, k2, k3, k4, k5, k6, k7, RR, seval]
  refine hK _ _ ?_; clear hK K
  refine awp_if false rfl (fun hc => by cases hc) (fun _ => ?_)
  refine awp_seq_k fun K hK => ?_
  refine awp_region rfl ?_
  simp only [k1, k2, k3, k4, k5, k6, k7, RR, seval]
  refine hK _ _ ?_; clear hK K
  refine awp_if false rfl (fun hc => by cases hc) (fun _ => ?_)
  refine awp_seq_k fun K hK => ?_
  refine awp_region rfl ?_
  simp only [k1, k2, k3, k4, k5, k6, k7, RR, seval]
  refine hK _ _ ?_; clear hK K
  refine awp_if false rfl (fun hc => by cases hc) (fun _ => ?_)
  refine awp_seq_k fun K hK => ?_
  refine awp_region rfl ?_
  simp only [k1, k2, k3, k4, k5, k6, k7, RR, seval]
  refine hK _ _ ?_; clear hK K
  refine awp_if false rfl (fun hc => by cases hc) (fun _ => ?_)
  refine awp_seq_k fun K hK => ?_
  refine awp_region rfl ?_
  simp only [k1, k2, k3, k4, k5, k6, k7, RR, seval]
  refine hK _ _ ?_; clear hK K
  refine awp_if false rfl (fun hc => by cases hc) (fun _ => ?_)
  refine awp_skip ?_; try simp only [RR]
  refine awp_seq_k fun K hK => ?_
  refine awp_region rfl ?_
  simp only [k1, k2, k3, k4, k5, k6, k7, RR, seval]
  refine hK _ _ ?_; clear hK K
  refine awp_ret ?_; simp only [bodyQ, aresult, ares, k1, k2, k3, k4, k5, k6, k7, RR, seval]
  exact Gives.run ⟨vo, ⟨rfl, by simp [u32R], rfl, hu, hO⟩, hR, (keepsR.refl _ _ _ _ _).s bo⟩
  skip
/-- THE PROGRAM's FUNCTIONS do what the plain ones say, at any depth. -/
theorem prgC (hx : CxOk cx) (r v : Nat) (abs : List Nat) (n : Nat) : PrgC cx r v abs n := by
  induction n with
  | zero =>
    constructor
    · intro rs ow e st vo H bo o _ _ _ _ h; simp [evE] at h
    · intro rs ow i f l st vo H bo o _ _ _ _ _ _ h; simp [evC] at h
    · intro rs ow e st vo H bo o _ _ _ _ h; simp [evS] at h
    · intro rs ow l st vo H bo o _ _ _ _ h; simp [evL] at h
    · intro rs ow e c st vo H bo o _ _ _ _ _ h; simp [evW] at h
  | succ n ih =>
    exact ⟨value_step ih hx, call_step ih hx, one_step ih, do_step ih, while_step ih hx⟩
end
end Go.Proofs.Ytlokndnkpleegaa
