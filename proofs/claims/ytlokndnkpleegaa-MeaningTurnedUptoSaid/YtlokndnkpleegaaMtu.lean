/- Chapter 18: turned conditions, in plain Lean. -/
import Derived.Test.YtlokndnkpleegaaMma
import Derived.Test.YtlokndnkpleegaaMz
set_option linter.unusedSimpArgs false
set_option linter.unusedVariables false
set_option maxRecDepth 10000
namespace Go.Al
def turnM (s : Sm) : Sm := match s.es with
  | a :: _ => if s.kind = 4 then .mk 4 [] [.mk 7 0 0 [] [a]] s.els s.thn else s
  | [] => s
def turnF (f : Fu) : Fu := { f with body := f.body.map turnM }
def turnP (p : Pg) (g : Fu) : Pg := ⟨p.vars, p.arrs, p.funs.take (p.funs.length - 1) ++ [turnF g]⟩
theorem turn_sz (s : Sm) : (turnM s).sz ≤ 2 * s.sz := by
  unfold turnM
  split
  · rename_i a r h
    split
    · have h1 := s.sz_eq
      rw [h] at h1
      simp only [szE] at h1
      simp only [Sm.sz, szE, Ex.sz]
      omega
    · omega
  · omega
theorem turn_szS : ∀ l : List Sm, szS (l.map turnM) ≤ 2 * szS l
  | [] => by simp [szS]
  | s :: l => by have := turn_szS l; have := turn_sz s; simp only [List.map_cons, szS]; omega
theorem turn_ok {s : Sm} (h : s.ok) : (turnM s).ok := by
  unfold turnM
  split
  · rename_i a r h'
    split
    · have ha : a.ok := h.es.all a (by rw [h']; exact List.mem_cons_self)
      refine .mk _ _ _ _ _ (by simp [i64R]) (by simp [fitL]) ⟨by simp [fitL], fun x hx => ?_⟩ h.els.fit h.els.all h.thn.fit h.thn.all
      simp only [List.mem_singleton] at hx
      subst hx
      exact .mk _ _ _ _ _ (by simp [i64R]) (by simp [i64R]) (by simp [u32R]) (by simp [fitL]) (by simp [fitL]) (fun e he => by simp only [List.mem_singleton] at he; subst he; exact ha)
    · exact h
  · exact h
theorem turn_funs {p : Pg} {g : Fu} {j : Nat} {f : Fu} (h0 : 1 ≤ p.funs.length) (hg : p.funs[p.funs.length - 1]? = some g) (hf : p.funs[j]? = some f) : (turnP p g).funs[j]? = some (if j = p.funs.length - 1 then turnF g else f) := by
  have hj := (List.getElem?_eq_some_iff.1 hf).1
  by_cases h : j = p.funs.length - 1
  · rw [if_pos h]
    show (p.funs.take (p.funs.length - 1) ++ [turnF g])[j]? = _
    rw [List.getElem?_append_right (by rw [List.length_take]; omega), List.length_take]
    rw [show j - min (p.funs.length - 1) p.funs.length = 0 from by omega]; rfl
  · rw [if_neg h]
    show (p.funs.take (p.funs.length - 1) ++ [turnF g])[j]? = _
    rw [List.getElem?_append_left (by rw [List.length_take]; omega), List.getElem?_take, if_pos (by omega), hf]
theorem turn_names {p : Pg} {g : Fu} (h0 : 1 ≤ p.funs.length) (hg : p.funs[p.funs.length - 1]? = some g) : (turnP p g).funs.map Fu.name = p.funs.map Fu.name := by
  have hlt : p.funs.length - 1 < p.funs.length := by omega
  have e : p.funs = p.funs.take (p.funs.length - 1) ++ [g] := by
    have h1 := List.take_succ_eq_append_getElem hlt
    rw [List.getElem?_eq_getElem hlt] at hg
    cases hg
    rw [show p.funs.length - 1 + 1 = p.funs.length from by omega, List.take_length] at h1
    exact h1
  have e2 : p.funs.map Fu.name = (p.funs.take (p.funs.length - 1)).map Fu.name ++ [g.name] := by
    have := congrArg (List.map Fu.name) e
    rw [List.map_append] at this
    exact this
  show (p.funs.take (p.funs.length - 1) ++ [turnF g]).map Fu.name = _
  rw [List.map_append, e2]
  rfl
theorem self_rel {rs : Str → Bool × Int} {u : Us} (h1 : u.kind = 1 → 0 ≤ (rs u.name).2) (h4 : u.kind = 4 → 0 ≤ (rs u.name).2) : relU 0 0 rs rs u :=
  ⟨fun e => ⟨h1 e, rfl, by split <;> simp⟩, fun _ => rfl, fun e => ⟨h4 e, by simp⟩⟩
end Go.Al
namespace Go.Proofs.Ytlokndnkpleegaa
open Go.Al
theorem turn_sim {rs : Str → Bool × Int} : ∀ (l : List Sm) (level : Int), rightS l level = true → (∀ u ∈ usesS l, relU 0 0 rs rs u) → simSs 0 0 rs rs l (l.map turnM)
  | [], _, _, _ => by simp only [List.map_nil, simSs]
  | s :: l, level, hr, hu => by
    rw [rightS_cons] at hr
    simp only [Bool.and_eq_true] at hr
    have w2 := turn_sim l level hr.2 fun u h => hu u (by rw [usesS_cons]; simp [h])
    have w1 := sim_selfS (dv := 0) (df := 0) (rs := rs) (rs' := rs) _ [s] (Nat.le_refl _) fun u h => hu u (by rw [usesS_cons] at h ⊢; simp only [usesS, List.append_nil] at h; simp only [List.mem_append] at h ⊢; exact .inl h)
    simp only [simSs] at w1
    rw [List.map_cons]
    simp only [simSs]
    refine ⟨?_, w2⟩
    by_cases hk : s.kind = 4
    · have hfit := hr.1
      simp only [rightM, Bool.and_eq_true] at hfit
      have hl := hfit.1.1.1.2
      unfold fitS at hl
      rw [if_pos (by omega)] at hl
      simp only [decide_eq_true_eq] at hl
      obtain ⟨k, nm, es, t, u⟩ := s
      simp only [Sm.kind, Sm.es] at hk hl
      subst hk
      obtain ⟨a, rfl⟩ : ∃ a, es = [a] := by
        match es, hl with
        | [a], _ => exact ⟨a, rfl⟩
      have e : turnM (.mk 4 nm [a] t u) = .mk 4 [] [.mk 7 0 0 [] [a]] u t := rfl
      rw [e]
      have w0 := sim_selfE (dv := 0) (df := 0) (rs := rs) (rs' := rs) _ [a] (Nat.le_refl _) fun v h => hu v (by rw [usesS_cons]; simp only [Sm.es, List.mem_append]; exact .inl (.inl (.inl (.inr h))))
      have wt := sim_selfS (dv := 0) (df := 0) (rs := rs) (rs' := rs) _ t (Nat.le_refl _) fun v h => hu v (by rw [usesS_cons]; simp only [Sm.thn, List.mem_append]; exact .inl (.inl (.inr h)))
      have wu := sim_selfS (dv := 0) (df := 0) (rs := rs) (rs' := rs) _ u (Nat.le_refl _) fun v h => hu v (by rw [usesS_cons]; simp only [Sm.els, List.mem_append]; exact .inl (.inr h))
      simp only [simEs] at w0
      simp only [simS]
      exact ⟨trivial, fun h => absurd h (by decide), fun h => absurd h (by decide), fun h => absurd h (by decide), .inr ⟨trivial, ⟨a, a, [], rfl, rfl, w0.1⟩, wt, wu⟩⟩
    · have e : turnM s = s := by
        unfold turnM
        split
        · rw [if_neg hk]
        · rfl
      rw [e]; exact w1.1
theorem turn_run {p : Pg} (h : soundT p = 0) {g : Fu} (hg : p.funs[p.funs.length - 1]? = some g) (inp : Str) (fu : Int) {n : Nat} {r} (hr : runR (cxP p inp fu) n p.vars.length (p.arrs.map fun a => a.size.toNat) = some r) : runR (cxP (turnP p g) inp fu) (2 * n) (turnP p g).vars.length ((turnP p g).arrs.map fun a => a.size.toNat) = some r := by
  obtain ⟨hrp, hgl, hnb, hm⟩ := sound_all h
  simp only [rightP, Bool.and_eq_true, decide_eq_true_eq, List.all_eq_true] at hrp
  simp only [namesB, Bool.and_eq_true] at hnb
  simp only [numsB, Bool.and_eq_true] at hm
  have h0 := hrp.1.1.1.2
  have hnm := turn_names h0 hg
  have hout : outP (turnP p g) = outP p := by unfold outP; rw [hnm]; rfl
  have hlen : (turnP p g).funs.length = p.funs.length := by have := congrArg List.length hnm; simpa using this
  have hx : SimX 0 0 (cxP p inp fu) (cxP (turnP p g) inp fu) := by
    refine ⟨rfl, rfl, fun i c hc => ?_⟩
    simp only [cxP, List.getElem?_map, Option.map_eq_some_iff] at hc
    obtain ⟨f, hf, rfl⟩ := hc
    have g1 := (namesFrom_get p p.funs 0 hnb.2 i f hf).2
    have g2 := nums_get p p.funs 0 hm.1 i f hf
    rw [Nat.zero_add, List.all_eq_true] at g1 g2
    have hrf := hrp.2 f (List.mem_of_getElem? hf)
    simp only [rightF, Bool.and_eq_true] at hrf
    have hc : ∀ (j : Nat) (g' : Fu), p.funs[j]? = some g' → ∃ c, (cxP p inp fu).funs[j]? = some c ∧ c.words = g'.params.length + g'.locs.length := fun j g' hg' => ⟨cfP (outP p) g', by simp [cxP, List.getElem?_map, hg'], rfl⟩
    have hu : ∀ u ∈ usesS f.body, relU 0 0 (rsP (outP p) (inP f)) (rsP (outP p) (inP f)) u := fun u hu => by
      obtain ⟨k1, _, k4⟩ := use_ok hf hc (g1 u hu) (g2 u hu)
      refine self_rel (fun e => (k1 e).1) fun e => ?_
      obtain ⟨q, _⟩ := rs_find hf u.name
      have b4 := (rs_find hf u.name).2.2.2.2
      have o1 := g1 u hu
      simp only [okUse, Bool.not_eq_true', Bool.or_eq_false_iff, Bool.and_eq_false_iff, decide_eq_false_iff_not, Bool.not_eq_false', decide_eq_true_eq] at o1
      rcases o1.2 with o | ⟨o, _⟩
      · exact absurd e o
      · rw [q]; simp only; rw [if_neg (by omega)]; exact (b4 o).1
    have hq := turn_funs h0 hg hf
    refine ⟨cfP (outP p) (if i = p.funs.length - 1 then turnF g else f), ?_, ?_, ?_⟩
    · simp only [cxP, List.getElem?_map, Nat.add_zero]
      rw [hq, hout]; rfl
    · split
      · rename_i e; subst e; rw [hf] at hg; cases hg; rfl
      · rfl
    · split
      · rename_i e
        subst e; rw [hf] at hg; cases hg
        exact turn_sim _ 1 hrf.2 hu
      · exact sim_selfS _ f.body (Nat.le_refl _) hu
  have := run_sim hx (by simp only [cxP, List.length_map, hlen, Nat.add_zero]) (by simp only [cxP, List.length_map]; omega) hr
  rw [Nat.zero_add] at this
  exact this
theorem turn_few {p : Pg} (h : p.few) {g : Fu} (h0 : 1 ≤ p.funs.length) (hg : p.funs[p.funs.length - 1]? = some g) (hs : szS g.body ≤ 1000) : (turnP p g).few := by
  have hlen : (turnP p g).funs.length = p.funs.length := by have := congrArg List.length (turn_names h0 hg); simpa using this
  have hgm := List.mem_of_getElem? hg
  have hmem : ∀ f ∈ (turnP p g).funs, f ∈ p.funs ∨ f = turnF g := fun f hf => by
    rcases List.mem_append.1 (show f ∈ p.funs.take (p.funs.length - 1) ++ [turnF g] from hf) with hf | hf
    · exact .inl (List.mem_of_mem_take hf)
    · exact .inr (List.mem_singleton.1 hf)
  have hgo := h.ok.funs g hgm
  have hgf := h.fs g hgm
  refine ⟨⟨h.ok.vars, h.ok.afit, h.ok.arrs, by simp only [fitL, hlen]; exact h.ok.ffit, fun f hf => ?_⟩, h.v, h.a, by rw [hlen]; exact h.f, fun f hf => ?_⟩
  · rcases hmem f hf with hf | rfl
    · exact h.ok.funs f hf
    · exact ⟨hgo.name, hgo.params, hgo.locs, ⟨by simp only [turnF, fitL, List.length_map]; exact hgo.body.fit, fun s hs' => by
        simp only [turnF] at hs'
        obtain ⟨x, hx, rfl⟩ := List.mem_map.1 hs'
        exact turn_ok (hgo.body.all x hx)⟩⟩
  · rcases hmem f hf with hf | rfl
    · exact h.fs f hf
    · refine ⟨hgf.1, hgf.2.1, ?_⟩
      have := turn_szS g.body
      simp only [turnF]; omega
end Go.Proofs.Ytlokndnkpleegaa
