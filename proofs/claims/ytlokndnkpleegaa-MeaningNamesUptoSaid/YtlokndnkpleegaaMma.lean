/- Chapter 18: runs of like programs, in plain Lean. -/
import Derived.Test.YtlokndnkpleegaaMz
import Derived.Test.YtlokndnkpleegaaM18e
set_option linter.unusedSimpArgs false
set_option linter.unusedVariables false
set_option maxRecDepth 10000
namespace Go.Al
theorem endR_map {α : Type} (sh : RS → RS) (h : ∀ s, (sh s).out = s.out ∧ (sh s).ticks = s.ticks) : ∀ o : Rz α, endR (o.map sh) = endR o
  | .val a s => by simp only [Rz.map, endR, h]
  | .fin e s => by simp only [Rz.map, endR, h]
theorem run_sim {d df : Nat} {cx cx' : Cx} (hx : SimX d df cx cx') (hl : cx'.funs.length = cx.funs.length + df) (h0 : 1 ≤ cx.funs.length) {n nv : Nat} {sizes : List Nat} {r} (h : runR cx n nv sizes = some r) : runR cx' (2 * n) (d + nv) sizes = some r := by
  have hx' : SimX (List.replicate d (0 : Int)).length df cx cx' := by rw [List.length_replicate]; exact hx
  have hlt : cx.funs.length - 1 < cx.funs.length := by omega
  have hg := List.getElem?_eq_getElem hlt
  generalize cx.funs[cx.funs.length - 1] = f at hg
  obtain ⟨f', q1, q2, q3⟩ := hx.fn _ _ hg
  have hm' : cx'.main = some f' := by
    unfold Cx.main
    rw [hl, show cx.funs.length + df - 1 = cx.funs.length - 1 + df from by omega]; exact q1
  have hm : cx.main = some f := hg
  unfold runR at *
  rw [hm] at h
  rw [hm']
  simp only [Option.bind_some, Option.map_eq_some_iff] at h ⊢
  obtain ⟨o, ho, he⟩ := h
  have hs := (simul hx' n).L f.res f'.res (List.replicate f.words 0) f.body f'.body (RS.init nv sizes) (by rw [List.length_replicate]; exact q3) o ho
  refine ⟨o.map (shV (List.replicate d 0)), ?_, by rw [endR_map (shV (List.replicate d (0 : Int))) (fun s => ⟨rfl, rfl⟩), he]⟩
  rw [q2, ← hs]
  congr 1
  simp [RS.init, shV, List.replicate_append_replicate]
/-- what the uses of a tree ask of two readings of its names -/
def relU (dv df : Nat) (rs rs' : Str → Bool × Int) (u : Us) : Prop := (u.kind = 1 → varS dv (rs u.name) (rs' u.name)) ∧ (u.kind = 3 → (rs' u.name).2 = (rs u.name).2) ∧ (u.kind = 4 → 0 ≤ (rs u.name).2 ∧ (rs' u.name).2 = (rs u.name).2 + df)
theorem sim_selfE {dv df : Nat} {rs rs' : Str → Bool × Int} (n : Nat) : ∀ l : List Ex, szE l ≤ n → (∀ u ∈ usesE l, relU dv df rs rs' u) → simEs dv df rs rs' l l := by
  induction n using Nat.strongRecOn with
  | _ n ih =>
    intro l hn hu
    match l, hn, hu with
    | [], _, _ => simp only [simEs]
    | e :: l, hn, hu =>
      have hz := e.sz_eq
      simp only [szE] at hn
      have w1 := ih (szE e.kids) (by omega) e.kids (Nat.le_refl _) fun u h => hu u (by rw [usesE_cons]; simp [h])
      have w2 := ih (szE l) (by omega) l (Nat.le_refl _) fun u h => hu u (by rw [usesE_cons]; simp [h])
      have hux : ∀ u ∈ useX e, relU dv df rs rs' u := fun u h => hu u (by rw [usesE_cons]; simp [h])
      obtain ⟨k, o, m, s, kids⟩ := e
      simp only [Ex.kind, Ex.kids, Ex.name, useX] at *
      simp only [simEs, simE]
      refine ⟨⟨trivial, trivial, trivial, fun h => ?_, fun h => ?_, fun h => ?_, w1⟩, w2⟩
      · subst h; exact (hux ⟨s, 1, 0⟩ (by simp)).1 rfl
      · subst h; exact (hux ⟨s, 3, 0⟩ (by simp)).2.1 rfl
      · subst h; exact (hux ⟨s, 4, kids.length⟩ (by simp)).2.2 rfl
theorem sim_selfS {dv df : Nat} {rs rs' : Str → Bool × Int} (n : Nat) : ∀ l : List Sm, szS l ≤ n → (∀ u ∈ usesS l, relU dv df rs rs' u) → simSs dv df rs rs' l l := by
  induction n using Nat.strongRecOn with
  | _ n ih =>
    intro l hn hu
    match l, hn, hu with
    | [], _, _ => simp only [simSs]
    | e :: l, hn, hu =>
      have hz := e.sz_eq
      simp only [szS] at hn
      have w0 := sim_selfE (dv := dv) (df := df) (rs := rs) (rs' := rs') _ e.es (Nat.le_refl _) fun u h => hu u (by rw [usesS_cons]; simp [h])
      have w1 := ih (szS e.thn) (by omega) e.thn (Nat.le_refl _) fun u h => hu u (by rw [usesS_cons]; simp [h])
      have w3 := ih (szS e.els) (by omega) e.els (Nat.le_refl _) fun u h => hu u (by rw [usesS_cons]; simp [h])
      have w2 := ih (szS l) (by omega) l (Nat.le_refl _) fun u h => hu u (by rw [usesS_cons]; simp [h])
      have hux : ∀ u ∈ useS e, relU dv df rs rs' u := fun u h => hu u (by rw [usesS_cons]; simp [h])
      obtain ⟨k, s, es, t, u⟩ := e
      simp only [Sm.kind, Sm.name, Sm.es, Sm.thn, Sm.els, useS] at *
      simp only [simSs, simS]
      refine ⟨⟨trivial, fun h => ?_, fun h => ?_, fun h => ?_, .inl ⟨w0, w1, w3⟩⟩, w2⟩
      · subst h; exact (hux ⟨s, 1, 0⟩ (by simp)).1 rfl
      · subst h; exact (hux ⟨s, 3, 0⟩ (by simp)).2.1 rfl
      · subst h; exact (hux ⟨s, 4, es.length⟩ (by simp)).2.2 rfl
/-- a name's two places -/
theorem outP_look (p : Pg) (s : Str) : lookP (outP p) s = match placeN p.vars s with
    | some k => some (false, (k : Int))
    | none => match placeN (p.arrs.map Ar.name) s with
      | some k => some (false, (k : Int))
      | none => (placeN (p.funs.map Fu.name) s).map (fun k : Nat => ((false, (k : Int)) : Bool × Int)) := by
  rw [outP, lookP_app, lookP_app, lookP_plK, lookP_plK, lookP_plK]
  cases placeN p.vars s <;> cases placeN (p.arrs.map Ar.name) s <;> cases placeN (p.funs.map Fu.name) s <;> simp
def unN : Str := [117, 110, 110, 97, 109, 101, 100]
def idN : Str := [105, 100, 108, 101]
def putD : Sm := .mk 3 [] [.mk 6 7 0 [] [.mk 1 0 1 [] [], .mk 1 0 0 [] []]] [] []
def idleF : Fu := ⟨idN, [], [], true, [putD]⟩
def moreP (p : Pg) : Pg := ⟨unN :: p.vars, p.arrs, idleF :: p.funs⟩
theorem placeN_mem {l : List Str} {s : Str} {k : Nat} (h : placeN l s = some k) : s ∈ l := List.mem_of_getElem? (placeN_lt _ _ _ h).2
theorem more_rel {p : Pg} (hn : (globL (moreP p)).Nodup) {i : Nat} {f : Fu} (hf : p.funs[i]? = some f) {u : Us} (h1 : okUse p i u = true) : relU 1 1 (rsP (outP p) (inP f)) (rsP (outP (moreP p)) (inP f)) u := by
  unfold relU
  have hr := rs_find hf u.name
  simp only [okUse, Bool.not_eq_true', Bool.or_eq_false_iff, Bool.and_eq_false_iff, decide_eq_false_iff_not, Bool.not_eq_false', decide_eq_true_eq] at h1
  obtain ⟨⟨k1, k3⟩, k4⟩ := h1
  have hI : lookP (inP f) u.name = (placeN (namesL f) u.name).map fun k => (true, ((0 + k : Nat) : Int)) := lookP_plK true u.name _ 0
  have hG := outP_look p u.name
  have hG' := outP_look (moreP p) u.name
  have e1 : (moreP p).vars = unN :: p.vars := rfl
  have e2 : (moreP p).arrs = p.arrs := rfl
  have e3 : (moreP p).funs.map Fu.name = idN :: p.funs.map Fu.name := rfl
  have hu1 : unN ∉ p.vars ++ p.arrs.map Ar.name ++ p.funs.map Fu.name := fun h => by
    have hgl : globL (moreP p) = unN :: (p.vars ++ p.arrs.map Ar.name ++ (idN :: p.funs.map Fu.name)) := rfl
    rw [hgl, List.nodup_cons] at hn
    refine hn.1 ?_
    simp only [List.mem_append, List.mem_cons] at h ⊢
    rcases h with h | h
    · exact .inl h
    · exact .inr (.inr h)
  have hu2 : idN ∉ p.vars ++ p.arrs.map Ar.name ++ p.funs.map Fu.name := fun h => by
    have hgl : globL (moreP p) = unN :: (p.vars ++ p.arrs.map Ar.name ++ (idN :: p.funs.map Fu.name)) := rfl
    rw [hgl, List.nodup_cons] at hn
    obtain ⟨_, q1, q2⟩ := List.nodup_append.1 hn.2
    rw [List.nodup_cons] at q1
    rcases List.mem_append.1 h with h | h
    · exact q2 _ h _ (List.mem_cons_self) rfl
    · exact q1.1 h
  have b1 := hr.2
  have r1 := hr.1
  clear hr
  generalize u.name = s at *
  by_cases hc : (findF p i s).1 = 0
  · refine ⟨fun e => ?_, fun e => ?_, fun e => ?_⟩
    · rcases k1 with (h | h) | h
      · exact absurd e h
      · omega
      · omega
    · rcases k3 with h | h
      · exact absurd e h
      · omega
    · rcases k4 with h | h
      · exact absurd e h
      · omega
  rcases Option.eq_none_or_eq_some (placeN (namesL f) s) with h1 | ⟨k, h1⟩
  rotate_left
  · have hF : findF p i s = (1, (k : Int)) := by unfold findF; rw [hf]; simp only [Option.bind_some, h1]
    have hA : rsP (outP p) (inP f) s = (true, ((0 + k : Nat) : Int)) := by unfold rsP; rw [hI, h1]; rfl
    have hB : rsP (outP (moreP p)) (inP f) s = (true, ((0 + k : Nat) : Int)) := by unfold rsP; rw [hI, h1]; rfl
    refine ⟨fun _ => ?_, fun _ => by rw [hA, hB], fun e => ?_⟩
    · rw [hA, hB]; exact ⟨by simp only; omega, rfl, by simp⟩
    · rcases k4 with h | h
      · exact absurd e h
      · rw [hF] at h; exact absurd h.1 (by simp)
  · have hF : findF p i s = findG p s := by unfold findF; rw [hf]; simp only [Option.bind_some, h1]
    have hmem : s ∈ p.vars ++ p.arrs.map Ar.name ++ p.funs.map Fu.name := by
      rw [hF] at hc
      unfold findG at hc
      rcases Option.eq_none_or_eq_some (placeN (globL p) s) with h | ⟨k, h⟩
      · rw [h] at hc; exact absurd rfl hc
      · exact placeN_mem h
    have hs1 : ¬ unN = s := fun e => hu1 (e ▸ hmem)
    have hs2 : ¬ idN = s := fun e => hu2 (e ▸ hmem)
    have hv : placeN (unN :: p.vars) s = (placeN p.vars s).map (· + 1) := by simp only [placeN, if_neg hs1]
    have hfu : placeN (idN :: p.funs.map Fu.name) s = (placeN (p.funs.map Fu.name) s).map (· + 1) := by simp only [placeN, if_neg hs2]
    rw [e1, e2, e3, hv, hfu] at hG'
    have hA : rsP (outP p) (inP f) s = (lookP (outP p) s).getD (false, 0) := by unfold rsP; rw [hI, h1]; rfl
    have hB : rsP (outP (moreP p)) (inP f) s = (lookP (outP (moreP p)) s).getD (false, 0) := by unfold rsP; rw [hI, h1]; rfl
    rw [hA, hB]
    rw [hA] at r1
    rw [hG, hG']
    rw [hG] at r1
    rw [hF] at k1 k3 k4 r1 b1
    unfold findG globL at k1 k3 k4 r1 b1
    rw [placeN_app, placeN_app] at k1 k3 k4 r1 b1
    rcases Option.eq_none_or_eq_some (placeN p.vars s) with h2 | ⟨k, h2⟩
    rotate_left
    · have := (placeN_lt _ _ _ h2).1
      simp only [h2, if_pos this, Option.map_some, Option.getD_some] at *
      refine ⟨fun e => ⟨by simp, rfl, by simp⟩, fun e => ?_, fun e => ?_⟩
      · rcases k3 with h | h
        · exact absurd e h
        · exact absurd h (by simp)
      · rcases k4 with h | h
        · exact absurd e h
        · exact absurd h.1 (by simp)
    · rcases Option.eq_none_or_eq_some (placeN (p.arrs.map Ar.name) s) with h3 | ⟨k, h3⟩
      rotate_left
      · have hk := (placeN_lt _ _ _ h3).1
        rw [List.length_map] at hk
        simp only [h2, h3, Option.map_some, Option.map_none, if_neg (show ¬ (k + p.vars.length < p.vars.length) from by omega), Nat.add_sub_cancel, if_pos hk, Option.getD_some] at *
        refine ⟨fun e => ?_, fun e => trivial, fun e => ?_⟩
        · rcases k1 with (h | h) | h
          · exact absurd e h
          · exact absurd h (by simp)
          · exact absurd h (by simp)
        · rcases k4 with h | h
          · exact absurd e h
          · exact absurd h.1 (by simp)
      · rcases Option.eq_none_or_eq_some (placeN (p.funs.map Fu.name) s) with h4 | ⟨k, h4⟩
        rotate_left
        · have hk := (placeN_lt _ _ _ h4).1
          rw [List.length_map] at hk
          simp only [h2, h3, h4, Option.map_some, Option.map_none, List.length_append, List.length_map, Option.getD_some] at *
          rw [if_neg (show ¬ (k + (p.vars.length + p.arrs.length) < p.vars.length) from by omega), if_neg (show ¬ (k + (p.vars.length + p.arrs.length) - p.vars.length < p.arrs.length) from by omega)] at k1 k3 k4
          refine ⟨fun e => ?_, fun e => ?_, fun e => ⟨by omega, by omega⟩⟩
          · rcases k1 with (h | h) | h
            · exact absurd e h
            · exact absurd h (by simp)
            · exact absurd h (by simp)
          · rcases k3 with h | h
            · exact absurd e h
            · exact absurd h (by simp)
        · exfalso
          rw [hF] at hc
          unfold findG globL at hc
          rw [placeN_app, placeN_app, h2, h3, h4] at hc
          exact hc rfl
end Go.Al
namespace Go.Proofs.Ytlokndnkpleegaa
open Go.Al
theorem more_run {p : Pg} (h : soundT p = 0) (hn : (globL (moreP p)).Nodup) (inp : Str) (fu : Int) {n : Nat} {r} (hr : runR (cxP p inp fu) n p.vars.length (p.arrs.map fun a => a.size.toNat) = some r) : runR (cxP (moreP p) inp fu) (2 * n) (moreP p).vars.length ((moreP p).arrs.map fun a => a.size.toNat) = some r := by
  obtain ⟨hrp, hg, hnb, hm⟩ := sound_all h
  simp only [rightP, Bool.and_eq_true, decide_eq_true_eq, List.all_eq_true] at hrp
  simp only [namesB, Bool.and_eq_true] at hnb
  have hx : SimX 1 1 (cxP p inp fu) (cxP (moreP p) inp fu) := by
    refine ⟨rfl, rfl, fun i c hc => ?_⟩
    simp only [cxP, List.getElem?_map, Option.map_eq_some_iff] at hc
    obtain ⟨f, hf, rfl⟩ := hc
    have g1 := (namesFrom_get p p.funs 0 hnb.2 i f hf).2
    rw [Nat.zero_add, List.all_eq_true] at g1
    refine ⟨cfP (outP (moreP p)) f, ?_, rfl, ?_⟩
    · simp only [cxP, List.getElem?_map]
      show ((idleF :: p.funs)[i + 1]?).map _ = _
      rw [List.getElem?_cons_succ, hf]; rfl
    · exact sim_selfS _ f.body (Nat.le_refl _) fun u hu => more_rel hn hf (g1 u hu)
  have := run_sim hx (by simp [cxP, moreP]) (by simp only [cxP, List.length_map]; omega) hr
  rw [show (moreP p).vars.length = 1 + p.vars.length from by simp only [moreP, List.length_cons]; omega]
  exact this
end Go.Proofs.Ytlokndnkpleegaa
