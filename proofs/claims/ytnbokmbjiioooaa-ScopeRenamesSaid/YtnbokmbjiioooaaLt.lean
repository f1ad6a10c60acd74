/- Chapter 16: ScopeTrue's contract. -/
import Derived.Test.YtnbokmbjiioooaaSc3
import Derived.Test.YtnbokmbjiioooaaAl4
set_option linter.unusedSimpArgs false
set_option linter.unusedVariables false
namespace Go.Proofs.Ytnbokmbjiioooaa
open Go.Al
theorem numsFrom_get (p : Pg) : ∀ (l : List Fu) (i : Nat), numsFrom p i l = true → ∀ (j : Nat) f, l[j]? = some f → (usesS f.body).all (numU p (i + j)) = true
  | [], i, _, j, f, hf => by simp at hf
  | g :: l, i, h, j, f, hf => by
    simp only [numsFrom, Bool.and_eq_true] at h
    cases j with
    | zero => simp at hf; subst hf; exact h.1
    | succ j =>
      have := numsFrom_get p l (i + 1) h.2 j f (by simpa using hf)
      rwa [show i + 1 + j = i + (j + 1) by omega] at this
theorem check_zero (p : Pg) (h : checkI p = 0) : namesB p = true ∧ numsB p = true := by
  simp only [checkI] at h
  split at h
  · rename_i h1
    split at h
    · rename_i h2; exact ⟨h1, h2⟩
    · omega
  · omega
theorem use_right (p : Pg) (h : checkI p = 0) (k : Nat) (f : Fu) (hf : p.funs[k]? = some f) (u : Us) (hu : u ∈ usesS f.body) : okUse p k u = true ∧ numU p k u = true := by
  obtain ⟨h1, h2⟩ := check_zero p h
  simp only [namesB, Bool.and_eq_true] at h1
  simp only [numsB, Bool.and_eq_true] at h2
  have g1 := (namesFrom_get p p.funs 0 h1.2 k f hf).2
  have g2 := numsFrom_get p p.funs 0 h2.1 k f hf
  rw [Nat.zero_add] at g1 g2
  exact ⟨List.all_eq_true.mp g1 u hu, List.all_eq_true.mp g2 u hu⟩
theorem usesE_kind (n : Nat) : ∀ l : List Ex, szE l ≤ n → ∀ u ∈ usesE l, u.kind = 1 ∨ u.kind = 3 ∨ u.kind = 4 := by
  induction n using Nat.strongRecOn with
  | _ n ih =>
    intro l hn u hu
    cases l with
    | nil => rw [usesE] at hu; cases hu
    | cons e l =>
      have hs := e.sz_eq
      rw [szE] at hn
      rw [usesE_cons] at hu
      simp only [List.mem_append] at hu
      rcases hu with (hu | hu) | hu
      · unfold useX at hu
        repeat' split at hu
        all_goals simp at hu
        all_goals subst hu; simp
      · exact ih (szE e.kids) (by omega) e.kids (Nat.le_refl _) u hu
      · exact ih (szE l) (by omega) l (Nat.le_refl _) u hu
theorem usesS_kind (n : Nat) : ∀ l : List Sm, szS l ≤ n → ∀ u ∈ usesS l, u.kind = 1 ∨ u.kind = 3 ∨ u.kind = 4 := by
  induction n using Nat.strongRecOn with
  | _ n ih =>
    intro l hn u hu
    cases l with
    | nil => rw [usesS] at hu; cases hu
    | cons e l =>
      have hs := e.sz_eq
      rw [szS] at hn
      rw [usesS_cons] at hu
      simp only [List.mem_append] at hu
      rcases hu with (((hu | hu) | hu) | hu) | hu
      · unfold useS at hu
        repeat' split at hu
        all_goals simp at hu
        all_goals subst hu; simp
      · exact usesE_kind _ e.es (Nat.le_refl _) u hu
      · exact ih (szS e.thn) (by omega) e.thn (Nat.le_refl _) u hu
      · exact ih (szS e.els) (by omega) e.els (Nat.le_refl _) u hu
      · exact ih (szS l) (by omega) l (Nat.le_refl _) u hu
theorem ScopeTrue_con (p : Pg) (hp : p.ok) : PCon env 7 [p.av] (.bool true) := by
  have hfew := few_con p hp
  have hall := few16_few p hp
  have hav : p.av = .agg p.row := rfl
  have hrow : p.row = [.isl 1 (p.vars.map strRow), .isl 2 (p.arrs.map Ar.row), .isl 5 (p.funs.map Fu.row)] := rfl
  rw [hav, hrow] at hfew ⊢
  cases hc : few16 p with
  | false =>
    rw [hc] at hfew
    refine con_of 102 [.tmp 2] Try.func7 rfl rfl rfl rfl ?_
    refine awp_seq_k fun K hK => ?_
    refine awp_region rfl ?_
    simp only [RR, seval]
    refine awpN_intro fun b1 hn1 => ?_
    simp only [RR, seval]
    refine hK _ _ ?_; clear hK K
    refine awp_seq ?_
    refine awp_seq_k fun K hK => ?_
    refine awp_region rfl ?_
    simp only [RR, seval]
    refine awpC_pure' (alive_con) ?_
    simp only [RR, seval]
    refine hK _ _ ?_; clear hK K
    refine awp_if false rfl (fun hc => by cases hc) (fun _ => ?_)
    refine awp_skip ?_; try simp only [RR]
    refine awp_seq ?_
    refine awp_seq_k fun K hK => ?_
    refine awp_region rfl ?_
    simp only [RR, seval]
    refine awpC_pure' (hfew) ?_
    simp only [RR, seval]
    refine hK _ _ ?_; clear hK K
    refine awp_if true rfl (fun _ => ?_) (fun hc => by cases hc)
    refine awp_seq_k fun K hK => ?_
    refine awp_region rfl ?_
    simp only [RR, seval]
    refine hK _ _ ?_; clear hK K
    refine awp_ret ?_; simp only [bodyQ, aresult, ares, RR, seval]
    refine Gives.pure ?_
    rfl
  | true =>
    rw [hc] at hfew
    obtain ⟨hf, h1⟩ := hall hc
    have c1 := Check_con p hf h1
    have hF := fun i hi s => scFind_con p hf i hi s
    rw [hav, hrow] at c1
    cases h0 : decide (checkI p = 0) with
    | false =>
      refine con_of 102 [.tmp 2] Try.func7 rfl rfl rfl rfl ?_
      refine awp_seq_k fun K hK => ?_
      refine awp_region rfl ?_
      simp only [h0, RR, seval]
      refine awpN_intro fun b1 hn1 => ?_
      simp only [h0, RR, seval]
      refine hK _ _ ?_; clear hK K
      refine awp_seq ?_
      refine awp_seq_k fun K hK => ?_
      refine awp_region rfl ?_
      simp only [h0, RR, seval]
      refine awpC_pure' (alive_con) ?_
      simp only [h0, RR, seval]
      refine hK _ _ ?_; clear hK K
      refine awp_if false rfl (fun hc => by cases hc) (fun _ => ?_)
      refine awp_skip ?_; try simp only [RR]
      refine awp_seq ?_
      refine awp_seq_k fun K hK => ?_
      refine awp_region rfl ?_
      simp only [h0, RR, seval]
      refine awpC_pure' (hfew) ?_
      simp only [h0, RR, seval]
      refine awpC_pure' (c1) ?_
      simp only [h0, RR, seval]
      refine hK _ _ ?_; clear hK K
      refine awp_if true rfl (fun _ => ?_) (fun hc => by cases hc)
      refine awp_seq_k fun K hK => ?_
      refine awp_region rfl ?_
      simp only [h0, RR, seval]
      refine hK _ _ ?_; clear hK K
      refine awp_ret ?_; simp only [bodyQ, aresult, ares, h0, RR, seval]
      refine Gives.pure ?_
      rfl
    | true =>
      have hr := use_right p (of_decide_eq_true h0)
      have hz := check_zero p (of_decide_eq_true h0)
      have hlast : ∀ g, p.funs[p.funs.length - 1]? = some g → g.name = [109, 97, 105, 110] := fun g hg => by
        have h2 := hz.2
        simp only [numsB, lastB, hg, Bool.and_eq_true, decide_eq_true_eq] at h2
        exact h2.2.1.1
      have hcall : ∀ (i : Nat) s, (findF p i s).1 = 4 → 0 ≤ (findF p i s).2 ∧ (findF p i s).2 < p.funs.length := fun i s h => findF_call p i s h
      have hkind := fun (l : List Sm) (u : Us) (hu : u ∈ usesS l) => usesS_kind _ l (Nat.le_refl _) u hu
      have hok1 : ∀ (i : Nat) (u : Us), okUse p i u = true → (u.kind = 1 → (findF p i u.name).1 = 1 ∨ (findF p i u.name).1 = 2) ∧ (u.kind = 3 → (findF p i u.name).1 = 3) ∧ (u.kind = 4 → (findF p i u.name).1 = 4 ∧ (findF p i u.name).2 < i) := fun i u h => by
        simp only [okUse] at h
        refine ⟨fun e => ?_, fun e => ?_, fun e => ?_⟩ <;> rw [e] at h <;> simpa using h
      have hok2 : ∀ (i : Nat) (u : Us), u.kind = 4 → numU p i u = true → ∀ g, p.funs[(findF p i u.name).2.toNat]? = some g → (g.params.length : Int) = u.num := fun i u e h g hg => by
        simp only [numU, e, hg] at h
        simpa using h
      have ga := hf.f
      have hfs := hf.fs
      have hokf := hp.funs
      clear hall
      generalize hck : decide (checkI p = 0) = ck at h0
      subst h0
      clear hz hc
      generalize checkI p = ci at *
      generalize numU p = NU at *
      generalize okUse p = OU at *
      generalize findF p = FF at *
      obtain ⟨vs, aa, fs⟩ := p
      simp only at *
      refine con_of 102 [.tmp 2] Try.func7 rfl rfl rfl rfl ?_
      refine awp_seq_k fun K hK => ?_
      refine awp_region rfl ?_
      simp only [hck, List.length_map, RR, seval]
      refine awpN_intro fun b1 hn1 => ?_
      simp only [hck, List.length_map, RR, seval]
      refine hK _ _ ?_; clear hK K
      refine awp_seq ?_
      refine awp_seq_k fun K hK => ?_
      refine awp_region rfl ?_
      simp only [hck, List.length_map, RR, seval]
      refine awpC_pure' (alive_con) ?_
      simp only [hck, List.length_map, RR, seval]
      refine hK _ _ ?_; clear hK K
      refine awp_if false rfl (fun hc => by cases hc) (fun _ => ?_)
      refine awp_skip ?_; try simp only [RR]
      refine awp_seq ?_
      refine awp_seq_k fun K hK => ?_
      refine awp_region rfl ?_
      simp only [hck, List.length_map, RR, seval]
      refine awpC_pure' (hfew) ?_
      simp only [hck, List.length_map, RR, seval]
      refine awpC_pure' (c1) ?_
      simp only [hck, List.length_map, RR, seval]
      refine hK _ _ ?_; clear hK K
      refine awp_if false rfl (fun hc => by cases hc) (fun _ => ?_)
      refine awp_skip ?_; try simp only [RR]
      refine awp_seq ?_
      refine awp_seq_k fun K hK => ?_
      refine awp_region rfl ?_
      simp only [hck, List.length_map, RR, seval]
      refine hK _ _ ?_; clear hK K
      refine awp_name fun F1 M1 hfr hH => ?_
      have g1 := hfr 1
      have g2 := hfr 2
      have g3 := hfr 3
      have gb1 := hH b1
      try simp only [hck, List.length_map, RR, seval] at g1 g2 g3 gb1
      have f1 := g1; clear g1
      have f2 := g2; clear g2
      have f3 := g3; clear g3
      have hb1 := gb1; clear gb1
      clear hfr hH
      refine awp_block ?_
      refine awp_each [1] (fs.length) (fun k fr M => fr 3 = .int .i64 (k : Nat) ∧ M b1 = M1 b1 ∧ True) ⟨f3, rfl, trivial⟩ ?_
      rintro k F2 M2 hk0 ⟨fx, gb1, -⟩ agx K0 hK0
      have f1 := (agx 1 rfl).trans f1
      have f3 := fx; clear fx
      have hb1 := gb1.trans hb1
      have ag0 := agree.refl [1] F2
      have e0_b1 := gb1; clear gb1
      clear agx
      refine awp_seq ?_
      refine awp_seq_k fun K hK => ?_
      refine awp_region rfl ?_
      simp only [f1, f3, hb1, hck, List.length_map, RR, seval]
      refine hK _ _ ?_; clear hK K
      refine awp_if _ rfl (fun hc => ?_) (fun hc => ?_)
      · have hlt0 : k < fs.length := by have := of_decide_eq_true hc; omega
        clear hc
        have hg0 := List.getElem?_eq_getElem hlt0
        have hg := getF hg0
        have hfsk := hfs _ (List.getElem_mem hlt0)
        have hokk := hokf _ (List.getElem_mem hlt0)
        have hrk := hr k _ hg0
        have hkk := hkind fs[k].body
        generalize fs[k] = g at hg hfsk hokk hrk hkk
        have hus := Uses_con _ g.body rfl (by omega) hokk.body
        have hul := usesS_len _ g.body rfl
        refine awp_skip ?_; try simp only [RR]
        refine awp_seq ?_
        refine awp_block ?_
        refine awp_seq_k fun K hK => ?_
        refine awp_region rfl ?_
        simp only [f1, f3, hb1, hck, List.length_map, hg, RR, seval]
        refine awpC_pure' (hus) ?_
        simp only [f1, f3, hb1, hck, List.length_map, hg, RR, seval]
        refine hK _ _ ?_; clear hK K
        generalize usesS g.body = us at hrk hul hkk
        refine awp_seq_k fun K hK => ?_
        refine awp_region rfl ?_
        simp only [f1, f3, hb1, hck, List.length_map, hg, RR, seval]
        refine hK _ _ ?_; clear hK K
        refine awp_name fun F3 M3 hfr hH => ?_
        have g1 := hfr 1
        have g2 := hfr 2
        have g3 := hfr 3
        have g4 := hfr 4
        have g5 := hfr 5
        have gb1 := hH b1
        try simp only [f1, f3, hb1, hck, List.length_map, hg, RR, seval] at g1 g2 g3 g4 g5 gb1
        have ag0 : agree [1] F2 F3 := agree.same hfr (by repeat (first | exact ag0 | refine agree.upd rfl ?_))
        have e0_b1 := (hH b1).trans (by first | exact e0_b1 | (simp only [upd_app, seval]; first | done | exact e0_b1))
        have f1 := g1; clear g1
        have f2 := g2; clear g2
        have f3 := g3; clear g3
        have f4 := g4; clear g4
        have f5 := g5; clear g5
        have hb1 := gb1; clear gb1
        clear hfr hH
        refine awp_block ?_
        refine awp_each [1, 3, 4] (us.length) (fun j fr M => fr 5 = .int .i64 (j : Nat) ∧ M b1 = M3 b1 ∧ True) ⟨f5, rfl, trivial⟩ ?_
        rintro j F4 M4 hk2 ⟨fx, gb1, -⟩ agx K2 hK2
        have f1 := (agx 1 rfl).trans f1
        have f3 := (agx 3 rfl).trans f3
        have f4 := (agx 4 rfl).trans f4
        have f5 := fx; clear fx
        have hb1 := gb1.trans hb1
        have ag0 : agree [1] F2 F4 := agree.sub agx rfl ag0
        have e0_b1 := gb1.trans e0_b1
        have ag2 := agree.refl [1, 3, 4] F4
        have e2_b1 := gb1; clear gb1
        clear agx
        refine awp_seq ?_
        refine awp_seq_k fun K hK => ?_
        refine awp_region rfl ?_
        simp only [f1, f3, f4, f5, hb1, hck, List.length_map, hg, RR, seval]
        refine hK _ _ ?_; clear hK K
        refine awp_if _ rfl (fun hc => ?_) (fun hc => ?_)
        · have hlt2 : j < us.length := by have := of_decide_eq_true hc; omega
          clear hc
          have hgu := getU (List.getElem?_eq_getElem hlt2)
          have hru := hrk _ (List.getElem_mem hlt2)
          have hku := hkk _ (List.getElem_mem hlt2)
          generalize us[j] = u at hgu hru hku
          have hfn := hF k hlt0 u.name
          obtain ⟨o1, o3, o4⟩ := hok1 k u hru.1
          have n4 := fun e => hok2 k u e hru.2
          have cl := hcall k u.name
          generalize FF k u.name = r at hfn o1 o3 o4 n4 cl
          refine awp_skip ?_; try simp only [RR]
          refine awp_seq ?_
          refine awp_block ?_
          refine awp_seq_k fun K hK => ?_
          refine awp_region_draw2 (fun x => x ≠ b1) [(0, 1), (1, 1), (2, 1), (3, 1), (4, 1), (5, 1), (6, 1), (7, 1), (8, 1), (9, 1), (10, 1), (11, 1), (12, 1)] [] draws (by kernel_rfl) rfl rfl ?_
          simp only [emitF, markOf, ne_eq, not_true_eq_false, and_false, false_and, not_false_eq_true, f1, f3, f4, f5, hb1, hck, List.length_map, hg, hgu, RR, seval]
          refine awpC_pure' (hfn) ?_
          simp only [emitF, markOf, ne_eq, not_true_eq_false, and_false, false_and, not_false_eq_true, f1, f3, f4, f5, hb1, hck, List.length_map, hg, hgu, RR, seval]
          refine hK _ _ ?_; clear hK K
          refine awp_seq_k fun K hK => ?_
          refine awp_region rfl ?_
          simp only [f1, f3, f4, f5, hb1, hck, List.length_map, hg, hgu, RR, seval]
          refine hK _ _ ?_; clear hK K
          refine awp_block ?_
          refine awp_seq_k fun K hK => ?_
          refine awp_region rfl ?_
          simp only [f1, f3, f4, f5, hb1, hck, List.length_map, hg, hgu, RR, seval]
          refine hK _ _ ?_; clear hK K
          refine awp_if _ rfl (fun hc16 => ?_) (fun hc16 => ?_)
          · have hh := o1 (of_decide_eq_true hc16)
            refine awp_seq_k fun K hK => ?_
            refine awp_region rfl ?_
            simp only [f1, f3, f4, f5, hb1, hck, List.length_map, hg, hgu, RR, seval]
            repeat' ((first | refine awpG_splitN (fun h => ?_) (fun h => ?_) | refine awpG_split (fun h => ?_) (fun h => ?_)) <;> simp only [h, f1, f3, f4, f5, hb1, hck, List.length_map, hg, hgu, RR, seval])
            all_goals
              refine hK _ _ ?_; clear hK K
              refine awp_if _ rfl (fun hc17 => ?_) (fun hc17 => ?_)
              · try (cases hc17; done)
                all_goals
                  exfalso
                  rcases hh with hh | hh <;> simp_all
              · try (cases hc17; done)
                all_goals
                  refine awp_skip ?_; try simp only [RR]
                  refine awp_region rfl ?_
                  simp only [f1, f3, f4, f5, hb1, hck, List.length_map, hg, hgu, RR, seval]
                  try rw [IntWalk.i64_in _ (by omega)]
                  refine hK2 _ _ hlt2 ⟨by first | rfl | (simp only [upd_app, seval]; rfl), (by first | exact e2_b1 | (simp only [upd_app, seval]; first | done | exact e2_b1)), trivial⟩ (by repeat (first | exact ag2 | refine agree.upd rfl ?_))
          · refine awp_seq_k fun K hK => ?_
            refine awp_region rfl ?_
            simp only [f1, f3, f4, f5, hb1, hck, List.length_map, hg, hgu, RR, seval]
            refine hK _ _ ?_; clear hK K
            refine awp_if _ rfl (fun hc19 => ?_) (fun hc19 => ?_)
            · refine awp_seq_k fun K hK => ?_
              refine awp_region rfl ?_
              simp only [f1, f3, f4, f5, hb1, hck, List.length_map, hg, hgu, RR, seval]
              refine hK _ _ ?_; clear hK K
              refine awp_if _ rfl (fun hc20 => ?_) (fun hc20 => ?_)
              · exfalso
                have := o3 (of_decide_eq_true hc19)
                simp_all
              · refine awp_skip ?_; try simp only [RR]
                refine awp_region rfl ?_
                simp only [f1, f3, f4, f5, hb1, hck, List.length_map, hg, hgu, RR, seval]
                try rw [IntWalk.i64_in _ (by omega)]
                refine hK2 _ _ hlt2 ⟨by first | rfl | (simp only [upd_app, seval]; rfl), (by first | exact e2_b1 | (simp only [upd_app, seval]; first | done | exact e2_b1)), trivial⟩ (by repeat (first | exact ag2 | refine agree.upd rfl ?_))
            · have k4 : u.kind = 4 := by rcases hku with h | h | h <;> simp_all
              obtain ⟨p1, p2⟩ := o4 k4
              obtain ⟨p3, p4⟩ := cl p1
              have p5 := n4 k4
              obtain ⟨n, hn⟩ := Int.eq_ofNat_of_zero_le p3
              have hnl : n < fs.length := by omega
              have hgn := getF (List.getElem?_eq_getElem hnl)
              rw [hn, Int.toNat_natCast, List.getElem?_eq_getElem hnl] at p5
              have p6 := p5 _ rfl
              clear p5
              generalize fs[n] = gn at hgn p6
              have z1 : decide (r.1 = 4) = true := decide_eq_true p1
              have z2 : decide ((n : Int) < 0) = false := decide_eq_false (by omega)
              have z3 : decide ((k : Int) ≤ (n : Int)) = false := decide_eq_false (by omega)
              have z4 : decide ((gn.params.length : Int) = u.num) = true := decide_eq_true p6
              refine awp_seq_k fun K hK => ?_
              refine awp_region_draw2 (fun x => x ≠ b1) [(0, 1), (1, 1), (2, 1), (3, 1), (4, 1), (5, 1), (6, 1), (7, 1), (8, 1), (9, 1), (10, 1), (11, 1), (12, 1), (13, 1), (14, 1), (15, 1), (16, 1), (17, 1), (18, 1), (19, 1), (20, 1), (21, 1), (22, 1), (23, 1), (24, 1), (25, 1)] [] draws (by kernel_rfl) rfl rfl ?_
              simp only [emitF, markOf, ne_eq, not_true_eq_false, and_false, false_and, not_false_eq_true, f1, f3, f4, f5, hb1, hck, List.length_map, hg, hgu, z1, hn, z2, z3, hgn, z4, RR, seval]
              refine hK _ _ ?_; clear hK K
              refine awp_if false rfl (fun hc => by cases hc) (fun _ => ?_)
              refine awp_skip ?_; try simp only [RR]
              refine awp_region rfl ?_
              simp only [f1, f3, f4, f5, hb1, hck, List.length_map, hg, hgu, z1, hn, z2, z3, hgn, z4, RR, seval]
              try rw [IntWalk.i64_in _ (by omega)]
              refine hK2 _ _ hlt2 ⟨by first | rfl | (simp only [upd_app, seval]; rfl), (by first | exact e2_b1 | (simp only [upd_app, seval]; first | done | exact e2_b1)), trivial⟩ (by repeat (first | exact ag2 | refine agree.upd rfl ?_))
        · have hkn2 : j = us.length := by have := of_decide_eq_false hc; omega
          clear hc
          refine awp_exit ?_; simp only [RR, seval]
          refine awp_region rfl ?_
          simp only [f1, f3, f4, f5, hb1, hck, List.length_map, hg, RR, seval]
          try rw [IntWalk.i64_in _ (by omega)]
          refine hK0 _ _ hlt0 ⟨by first | rfl | (simp only [upd_app, seval]; rfl), (by first | exact e0_b1 | (simp only [upd_app, seval]; first | done | exact e0_b1)), trivial⟩ (by repeat (first | exact ag0 | refine agree.upd rfl ?_))
      · have hkn0 : k = fs.length := by have := of_decide_eq_false hc; omega
        clear hc
        refine awp_exit ?_; simp only [RR, seval]
        have hlt : fs.length - 1 < fs.length := by omega
        have hgl := getF (List.getElem?_eq_getElem hlt)
        have hnl := hlast _ (List.getElem?_eq_getElem hlt)
        generalize fs[fs.length - 1] = gl at hgl hnl
        have w1 : IntKind.wrap .i64 ((fs.length : Int) - 1) = ((fs.length - 1 : Nat) : Int) := by rw [IntWalk.i64_in _ (by omega)]; omega
        have z5 : decide (gl.name = [109, 97, 105, 110]) = true := decide_eq_true hnl
        refine awp_seq_k fun K hK => ?_
        refine awp_region rfl ?_
        simp only [f1, f3, hb1, hck, List.length_map, w1, hgl, z5, RR, seval]
        refine hK _ _ ?_; clear hK K
        refine awp_ret ?_; simp only [bodyQ, aresult, ares, f1, f3, hb1, hck, List.length_map, w1, hgl, z5, RR, seval]
        refine Gives.pure ?_
        rfl
end Go.Proofs.Ytnbokmbjiioooaa
