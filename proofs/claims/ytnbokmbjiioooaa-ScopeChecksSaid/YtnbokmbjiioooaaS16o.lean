/- Chapter 16, the program's: what Calls does with a use. -/
import Derived.Test.YtnbokmbjiioooaaS16n
import Derived.Test.YtnbokmbjiioooaaAlZ
set_option linter.unusedSimpArgs false
set_option linter.unusedVariables false
namespace Go.Proofs.Ytnbokmbjiioooaa
open Go.Al
def cllD (p : Pg) (i : Nat) (bn bc bt bo bi : Nat) (mo mi : List Th) (us : List Us) (H : Hp) : Prop :=
  H bn = some (.rows 2 [[.mp bo, .mp bi]]) ∧ H bc = some (.rows 1 [[.osl 1 bt p.funs.length]]) ∧ H bt = some (.rows 1 ((thereL p.funs.length (isCall p i) us).map boolRow)) ∧
    H bo = some (.amap (mo.map ent)) ∧ H bi = some (.amap (mi.map ent))
section
variable {p : Pg} {i bn bc bt bo bi : Nat} {mo mi : List Th} {us : List Us} {H : Hp}
theorem cllD.ext (h : cllD p i bn bc bt bo bi mo mi us H) {H' : Hp} (hk : keeps (fun _ => False) H H') : cllD p i bn bc bt bo bi mo mi us H' := by
  obtain ⟨h1, h2, h3, h4, h5⟩ := h
  exact ⟨hk _ _ (fun h => h) h1, hk _ _ (fun h => h) h2, hk _ _ (fun h => h) h3, hk _ _ (fun h => h) h4, hk _ _ (fun h => h) h5⟩
end
set_option maxHeartbeats 2000000 in
theorem cll_con (p : Pg) (hp : p.few) (i : Nat) (bn bc bt bo bi : Nat) (mo mi : List Th) (hct : bc ≠ bt) (hF : ∀ s, findM mo mi s = findF p i s)
    (us : List Us) (H : Hp) (u : Us) (hu : u.kind = 1 ∨ u.kind = 3 ∨ u.kind = 4) (hD : cllD p i bn bc bt bo bi mo mi us H) :
    Con env 34 [useV u, .ptr 2 bn 0 0, .ptr 1 bc 0 0] H
      (fun ae H' => ∃ v, ae = .ret v ∧ (v = .tup [] ∧ cllD p i bn bc bt bo bi mo mi (us ++ [u]) H' ∧ keeps (fun b => b = bt) H H')) := by
  have hfind := fun H' h1 h2 => find_con mo mi bo bi u.name H' h1 h2
  rw [hF] at hfind
  have hq : ∀ n, isCall p i n u = (decide (u.kind = 4) && decide ((findF p i u.name).1 = 4) && decide ((findF p i u.name).2 = n)) := fun _ => rfl
  have hcall := findF_call p i u.name
  have hff : p.funs.length ≤ 10000 := hp.f
  have hnone := thereL_none p.funs.length (isCall p i) us u
  have hset := thereL_set p.funs.length (isCall p i) us u
  have hlen : (thereL p.funs.length (isCall p i) us).length = p.funs.length := by simp [thereL]
  generalize findF p i u.name = r at *
  refine con_of 21 [] Try.func34 rfl rfl rfl rfl ?_
  simp only [useV]
  refine awp_cutK (fun fr H' => ∃ bu, fr 1 = .ptr 2 bn 0 0 ∧ fr 2 = .ptr 1 bc 0 0 ∧ fr 3 = .ptr 3 bu 0 0 ∧ H' bu = some (.rows 3 [[.int .i64 (if u.kind = 1 then 2 else u.kind), .str u.name, .int .i64 u.num]]) ∧ keeps (fun _ => False) H H') (fun K hK => ?_) ?_
  · refine awp_region rfl ?_; simp only [AL, TY, aq, aint, astr, aWant, isPtr, abnd, ahi, alo, aload, rd, newObj, alit, aparts, astore, amapset, cellsOf, ev, avOf, av1, putF, upd, argF, TK.agg, aapp, asrc, one, aq.abuild, Nat.reduceEqDiff, Nat.reduceAdd, Nat.reduceLT, Nat.reduceLeDiff, Nat.reduceMul, Nat.reduceSub, reduceIte, reduceCtorEq, Int.reduceLE, Int.reduceToNat, Int.reduceLT, Int.reduceEq, Int.reduceAdd, Int.reduceSub, Int.reduceMul, Int.reduceNeg]
    refine awpN_intro fun bu hbu => ?_
    simp only [AL, TY, aq, aint, astr, aWant, isPtr, abnd, ahi, alo, aload, rd, newObj, alit, aparts, astore, amapset, cellsOf, ev, avOf, av1, putF, upd, argF, TK.agg, aapp, asrc, one, aq.abuild, Nat.reduceEqDiff, Nat.reduceAdd, Nat.reduceLT, Nat.reduceLeDiff, Nat.reduceMul, Nat.reduceSub, reduceIte, reduceCtorEq, Int.reduceLE, Int.reduceToNat, Int.reduceLT, Int.reduceEq, Int.reduceAdd, Int.reduceSub, Int.reduceMul, Int.reduceNeg]
    exact hK _ _ ⟨bu, rfl, rfl, rfl, upd_same _ _ _, (keeps.refl _ H).new hbu _⟩
  rintro fr H1 ⟨bu, f1, f2, f3, hbu, hk⟩
  have hD1 := hD.ext hk
  refine awp_cutK (fun fr H' => ∃ bx, fr 2 = .ptr 1 bc 0 0 ∧ fr 3 = .ptr 3 bu 0 0 ∧ fr 4 = .ptr 2 bx 0 0 ∧ H' bx = some (.rows 2 [[.int .i64 r.1, .int .i64 r.2]]) ∧ H' bu = some (.rows 3 [[.int .i64 (if u.kind = 1 then 2 else u.kind), .str u.name, .int .i64 u.num]]) ∧ keeps (fun _ => False) H H') (fun K hK => ?_) ?_
  · obtain ⟨d1, d2, d3, d4, d5⟩ := hD1
    refine awp_region rfl ?_
    simp only [f1, f3, d1, hbu, AL, TY, aq, aint, astr, aWant, isPtr, abnd, ahi, alo, aload, rd, newObj, alit, aparts, astore, amapset, cellsOf, ev, avOf, av1, putF, upd, argF, TK.agg, aapp, asrc, one, aq.abuild, Nat.reduceEqDiff, Nat.reduceAdd, Nat.reduceLT, Nat.reduceLeDiff, Nat.reduceMul, Nat.reduceSub, reduceIte, reduceCtorEq, Int.reduceLE, Int.reduceToNat, Int.reduceLT, Int.reduceEq, Int.reduceAdd, Int.reduceSub, Int.reduceMul, Int.reduceNeg]
    refine awpC_whole (hfind H1 d4 d5) (SubL.refl _) (fun _ => trivial) fun v H2 ⟨hv, hk2⟩ => ?_
    subst hv
    simp only [thV, AL, TY, aq, aint, astr, aWant, isPtr, abnd, ahi, alo, aload, rd, newObj, alit, aparts, astore, amapset, cellsOf, ev, avOf, av1, putF, upd, argF, TK.agg, aapp, asrc, one, aq.abuild, Nat.reduceEqDiff, Nat.reduceAdd, Nat.reduceLT, Nat.reduceLeDiff, Nat.reduceMul, Nat.reduceSub, reduceIte, reduceCtorEq, Int.reduceLE, Int.reduceToNat, Int.reduceLT, Int.reduceEq, Int.reduceAdd, Int.reduceSub, Int.reduceMul, Int.reduceNeg]
    refine awpN_intro fun bx hbx => ?_
    simp only [AL, TY, aq, aint, astr, aWant, isPtr, abnd, ahi, alo, aload, rd, newObj, alit, aparts, astore, amapset, cellsOf, ev, avOf, av1, putF, upd, argF, TK.agg, aapp, asrc, one, aq.abuild, Nat.reduceEqDiff, Nat.reduceAdd, Nat.reduceLT, Nat.reduceLeDiff, Nat.reduceMul, Nat.reduceSub, reduceIte, reduceCtorEq, Int.reduceLE, Int.reduceToNat, Int.reduceLT, Int.reduceEq, Int.reduceAdd, Int.reduceSub, Int.reduceMul, Int.reduceNeg]
    have hub := hk2 _ _ (fun h => h) hbu
    have hne : bu ≠ bx := fun e => by rw [e, hbx] at hub; cases hub
    refine hK _ _ ⟨bx, f2, f3, rfl, upd_same _ _ _, by simp only [upd, if_neg hne]; exact hub, ?_⟩
    intro b' o' hm hb'
    have h9 := hk2 b' o' hm (hk b' o' hm hb')
    have : b' ≠ bx := fun e => by rw [e, hbx] at h9; cases h9
    simp only [upd, if_neg this]; exact h9
  rintro fr H2 ⟨bx, f2, f3, f4, hbx, hbu, hk2⟩
  have hD2 := hD.ext hk2
  obtain ⟨d1, d2, d3, d4, d5⟩ := hD2
  by_cases hcl : u.kind = 4 ∧ r.1 = 4
  · obtain ⟨k4, r4⟩ := hcl
    have e0 : (if u.kind = 1 then (2 : Int) else u.kind) = 4 := by rw [if_neg (by omega), k4]
    rw [e0] at hbu
    have e2 : decide (r.1 = 4) = true := decide_eq_true r4
    obtain ⟨c1, c2⟩ := hcall r4
    obtain ⟨n, hn⟩ := Int.eq_ofNat_of_zero_le c1
    have hnl : n < p.funs.length := by omega
    have hi1 : (n : Int) < (p.funs.length : Int) := by omega
    have hs := hset n hnl (fun m hm => by
      rw [hq, decide_eq_true k4, e2, hn, Bool.true_and, Bool.true_and, Bool.eq_iff_iff]
      simp only [decide_eq_true_eq]; omega)
    have hgt : ((thereL p.funs.length (isCall p i) us).map boolRow)[n]? = some [.bool (thereL p.funs.length (isCall p i) us)[n]!] := by
      have hl : n < (thereL p.funs.length (isCall p i) us).length := by rw [hlen]; exact hnl
      rw [getElem!_pos _ n hl]
      exact getRow _ (List.getElem?_eq_getElem hl)
    refine awp_seq_k fun K hK => ?_; refine awp_region rfl ?_; simp only [AL, TY, aq, aint, astr, aWant, isPtr, abnd, ahi, alo, aload, rd, newObj, alit, aparts, astore, amapset, cellsOf, ev, avOf, av1, putF, upd, argF, TK.agg, aapp, asrc, one, aq.abuild, Nat.reduceEqDiff, Nat.reduceAdd, Nat.reduceLT, Nat.reduceLeDiff, Nat.reduceMul, Nat.reduceSub, reduceIte, reduceCtorEq, Int.reduceLE, Int.reduceToNat, Int.reduceLT, Int.reduceEq, Int.reduceAdd, Int.reduceSub, Int.reduceMul, Int.reduceNeg]
    simp only [f3, f4, hbu, hbx, e2, AL, TY, aq, aint, astr, aWant, isPtr, abnd, ahi, alo, aload, rd, newObj, alit, aparts, astore, amapset, cellsOf, ev, avOf, av1, putF, upd, argF, TK.agg, aapp, asrc, one, aq.abuild, Nat.reduceEqDiff, Nat.reduceAdd, Nat.reduceLT, Nat.reduceLeDiff, Nat.reduceMul, Nat.reduceSub, reduceIte, reduceCtorEq, Int.reduceLE, Int.reduceToNat, Int.reduceLT, Int.reduceEq, Int.reduceAdd, Int.reduceSub, Int.reduceMul, Int.reduceNeg]
    refine hK _ _ ?_; clear hK K
    refine awp_if true rfl (fun _ => ?_) (fun hc => by cases hc)
    refine awp_region rfl ?_
    simp only [f2, f4, d2, hbx, hn, hi1, d3, hgt, bodyQ, aresult, ares, AL, TY, aq, aint, astr, aWant, isPtr, abnd, ahi, alo, aload, rd, newObj, alit, aparts, astore, amapset, cellsOf, ev, avOf, av1, putF, upd, argF, TK.agg, aapp, asrc, one, aq.abuild, Nat.reduceEqDiff, Nat.reduceAdd, Nat.reduceLT, Nat.reduceLeDiff, Nat.reduceMul, Nat.reduceSub, reduceIte, reduceCtorEq, Int.reduceLE, Int.reduceToNat, Int.reduceLT, Int.reduceEq, Int.reduceAdd, Int.reduceSub, Int.reduceMul, Int.reduceNeg]
    refine Gives.whole ⟨rfl, ⟨?_, ?_, ?_, ?_, ?_⟩, keeps.set (M := fun b => b = bt) (hk2.mono fun _ h => h.elim) rfl _⟩
    · have : bn ≠ bt := fun e => by rw [e, d3] at d1; simp at d1
      simp only [upd, if_neg this]; exact d1
    · simp only [upd, if_neg hct]; exact d2
    · rw [upd_same, hs, List.map_set]; rfl
    · have : bo ≠ bt := fun e => by rw [e, d3] at d4; cases d4
      simp only [upd, if_neg this]; exact d4
    · have : bi ≠ bt := fun e => by rw [e, d3] at d5; cases d5
      simp only [upd, if_neg this]; exact d5
  · have hno := hnone (fun m hm => by
      rw [hq]
      by_cases k4 : u.kind = 4
      · have r4 : ¬ r.1 = 4 := fun h => hcl ⟨k4, h⟩
        simp [r4]
      · simp [k4])
    have fin : ∀ fr', Gives (fun ae H' => ∃ v, ae = .ret v ∧ (v = .tup [] ∧ cllD p i bn bc bt bo bi mo mi (us ++ [u]) H' ∧ keeps (fun b => b = bt) H H')) (.tup []) H2 ∨ fr' = (0 : Nat) := fun _ => .inl (Gives.whole ⟨rfl, ⟨d1, d2, by rw [hno]; exact d3, d4, d5⟩, hk2.mono fun _ h => h.elim⟩)
    have fin := (fin 1).resolve_right (by decide)
    by_cases k4 : u.kind = 4
    · have r4 : ¬ r.1 = 4 := fun h => hcl ⟨k4, h⟩
      have e0 : (if u.kind = 1 then (2 : Int) else u.kind) = 4 := by rw [if_neg (by omega), k4]
      rw [e0] at hbu
      have e2 : decide (r.1 = 4) = false := decide_eq_false r4
      refine awp_seq_k fun K hK => ?_; refine awp_region rfl ?_; simp only [AL, TY, aq, aint, astr, aWant, isPtr, abnd, ahi, alo, aload, rd, newObj, alit, aparts, astore, amapset, cellsOf, ev, avOf, av1, putF, upd, argF, TK.agg, aapp, asrc, one, aq.abuild, Nat.reduceEqDiff, Nat.reduceAdd, Nat.reduceLT, Nat.reduceLeDiff, Nat.reduceMul, Nat.reduceSub, reduceIte, reduceCtorEq, Int.reduceLE, Int.reduceToNat, Int.reduceLT, Int.reduceEq, Int.reduceAdd, Int.reduceSub, Int.reduceMul, Int.reduceNeg]
      simp only [f3, f4, hbu, hbx, e2, AL, TY, aq, aint, astr, aWant, isPtr, abnd, ahi, alo, aload, rd, newObj, alit, aparts, astore, amapset, cellsOf, ev, avOf, av1, putF, upd, argF, TK.agg, aapp, asrc, one, aq.abuild, Nat.reduceEqDiff, Nat.reduceAdd, Nat.reduceLT, Nat.reduceLeDiff, Nat.reduceMul, Nat.reduceSub, reduceIte, reduceCtorEq, Int.reduceLE, Int.reduceToNat, Int.reduceLT, Int.reduceEq, Int.reduceAdd, Int.reduceSub, Int.reduceMul, Int.reduceNeg]
      refine hK _ _ ?_; clear hK K
      refine awp_if false rfl (fun hc => by cases hc) (fun _ => ?_)
      refine awp_skip ?_
      simp only [bodyQ, aresult, ares]
      exact fin
    · have e0 : decide ((if u.kind = 1 then (2 : Int) else u.kind) = 4) = false := by
        apply decide_eq_false
        split
        · decide
        · exact k4
      generalize (if u.kind = 1 then (2 : Int) else u.kind) = kk at hbu e0
      refine awp_seq_k fun K hK => ?_; refine awp_region rfl ?_; simp only [AL, TY, aq, aint, astr, aWant, isPtr, abnd, ahi, alo, aload, rd, newObj, alit, aparts, astore, amapset, cellsOf, ev, avOf, av1, putF, upd, argF, TK.agg, aapp, asrc, one, aq.abuild, Nat.reduceEqDiff, Nat.reduceAdd, Nat.reduceLT, Nat.reduceLeDiff, Nat.reduceMul, Nat.reduceSub, reduceIte, reduceCtorEq, Int.reduceLE, Int.reduceToNat, Int.reduceLT, Int.reduceEq, Int.reduceAdd, Int.reduceSub, Int.reduceMul, Int.reduceNeg]
      simp only [f3, f4, hbu, hbx, e0, AL, TY, aq, aint, astr, aWant, isPtr, abnd, ahi, alo, aload, rd, newObj, alit, aparts, astore, amapset, cellsOf, ev, avOf, av1, putF, upd, argF, TK.agg, aapp, asrc, one, aq.abuild, Nat.reduceEqDiff, Nat.reduceAdd, Nat.reduceLT, Nat.reduceLeDiff, Nat.reduceMul, Nat.reduceSub, reduceIte, reduceCtorEq, Int.reduceLE, Int.reduceToNat, Int.reduceLT, Int.reduceEq, Int.reduceAdd, Int.reduceSub, Int.reduceMul, Int.reduceNeg]
      refine hK _ _ ?_; clear hK K
      refine awp_if false rfl (fun hc => by cases hc) (fun _ => ?_)
      refine awp_skip ?_
      simp only [bodyQ, aresult, ares]
      exact fin
def cllV (p : Pg) (hp : p.few) (i : Nat) (bn bc bt bo bi : Nat) (mo mi : List Th) (hct : bc ≠ bt) (hF : ∀ s, findM mo mi s = findF p i s) :
    Vis (List Us) 34 [.ptr 2 bn 0 0, .ptr 1 bc 0 0] where
  D := cllD p i bn bc bt bo bi mo mi
  step := fun us u => us ++ [u]
  M := fun b => b = bt
  spec := fun s H u hu hD => cll_con p hp i bn bc bt bo bi mo mi hct hF s H u hu hD
  ext := fun s H H' hD hk => hD.ext hk
  old := fun s H hD b hb => by
    obtain ⟨_, _, h3, _⟩ := hD
    subst hb
    rw [h3]; simp
theorem fold_snoc : ∀ (l a : List Us), l.foldl (fun us u => us ++ [u]) a = a ++ l
  | [], a => by simp
  | u :: l, a => by simp only [List.foldl_cons, fold_snoc l, List.append_assoc, List.cons_append, List.nil_append]
end Go.Proofs.Ytnbokmbjiioooaa
