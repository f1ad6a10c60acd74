/- The little logic, sixteenth part: what an operation looks at, and what it leaves alone. -/
import Derived.Test.YtcfapbmjaiipjaaDoorAlO
import Derived.Orders
set_option linter.unusedSimpArgs false
set_option linter.unusedVariables false
namespace Go.Al

/-- the operations that only read -/
def calm : Op → Bool
  | .move _ | .assign _ | .pick _ _ _ | .load _ _ | .nilCheck _ | .binOp _ _ _ _ _ | .unOp _ _ _ | .convert _ _ _ | .slice _ _ _ _ none | .fieldAddr _ _ _ | .field _ _ _ | .indexAddr _ _ _ | .index _ _ _
  | .makeInterface _ _ | .makeFunc _ _ _ | .lookup _ _ _ _ | .extract _ _ | .build _ _ | .call ⟨.builtin .len, _, _⟩ | .call ⟨.builtin .min, _, _⟩ | .call ⟨.builtin .max, _, _⟩ => true
  | _ => false
/-- the operand through which an operation reads memory that may be owned -/
def markOf : Op → Option Operand
  | .load _ x => some x
  | .lookup _ x _ _ => some x
  | _ => none
section
variable {E : Env} {F : Nat → Prop} {fr fr' : Fr} {H H' : Hp} {K Kp : AV → Hp → Prop}

theorem map_ev_congr {xs : List Operand} (h : ∀ x ∈ xs, ev E.G fr x = ev E.G fr' x) : xs.map (ev E.G fr) = xs.map (ev E.G fr') := List.map_congr_left h
theorem opt_ev_congr {x : Option Operand} (h : ∀ y, x = some y → ev E.G fr y = ev E.G fr' y) : x.map (ev E.G fr) = x.map (ev E.G fr') := by
  cases x with
  | none => rfl
  | some y => simp [h y rfl]
theorem aparts_congr {size : Nat} : ∀ (ps : List (Nat × Operand)) (k : Nat), (∀ p ∈ ps, ev E.G fr p.2 = ev E.G fr' p.2) → aparts E fr size k ps = aparts E fr' size k ps
  | [], _, _ => rfl
  | (i, x) :: r, k, h => by
    simp only [aparts, h (i, x) (by simp), aparts_congr r (k + 1) fun p hp => h p (by simp [hp])]
theorem aq_congr {o : Op} (h : ∀ x ∈ o.operands, ev E.G fr x = ev E.G fr' x) : aq E H fr o = aq E H fr' o := by
  cases o <;> simp only [Op.operands] at h <;> try (first | rfl | (simp only [aq]; done))
  case slice t x lo hi m =>
    cases m with
    | some m => rfl
    | none =>
      have h1 := h x (by simp)
      have h2 : lo.map (ev E.G fr) = lo.map (ev E.G fr') := opt_ev_congr fun y hy => h y (by simp [hy])
      have h3 : hi.map (ev E.G fr) = hi.map (ev E.G fr') := opt_ev_congr fun y hy => h y (by simp [hy])
      simp only [aq, h1, h2, h3]
  case makeFunc f xs ys =>
    have h1 := map_ev_congr (E := E) (fr := fr) (fr' := fr') (xs := xs.toList) fun x hx => h x (by simp at hx; simp [hx])
    have h2 := map_ev_congr (E := E) (fr := fr) (fr' := fr') (xs := ys.toList) fun x hx => h x (by simp at hx; simp [hx])
    simp only [aq, h1, h2]
  case build t ps =>
    have h1 : (ps.toList.map fun p => (p.1, ev E.G fr p.2)) = ps.toList.map fun p => (p.1, ev E.G fr' p.2) := List.map_congr_left fun p hp => by
      rw [h p.2 (by simp only [List.mem_toArray, List.mem_map]; exact ⟨p, hp, rfl⟩)]
    simp only [aq, h1]
  case call c =>
    obtain ⟨f, args, ts⟩ := c
    cases f with
    | value => rfl
    | invoke => rfl
    | builtin b =>
      have h1 : ∀ x ∈ args.toList, ev E.G fr x = ev E.G fr' x := fun x hx => h x (by simp at hx; simp [Call.operands, hx])
      cases b <;> try rfl
      all_goals
        simp only [aq]
        split
        all_goals first
          | rfl
          | (rename_i e; rw [e] at h1; simp only [List.mem_cons, List.not_mem_nil, or_false, forall_eq_or_imp, forall_eq] at h1; simp only [h1]; done)
          | (rename_i e _; rw [e] at h1; simp only [List.mem_cons, List.not_mem_nil, or_false, forall_eq_or_imp, forall_eq] at h1; simp only [h1]; done)
  all_goals
    simp only [List.mem_toArray, List.mem_cons, List.not_mem_nil, or_false, forall_eq_or_imp, forall_eq] at h
    simp only [aq, h]
theorem astep_congr {o : Op} (h : ∀ x ∈ o.operands, ev E.G fr x = ev E.G fr' x) : astep E F o fr H K Kp = astep E F o fr' H K Kp := by
  have hq := aq_congr (H := H) h
  cases o <;> simp only [Op.operands] at h
  case buildSlice t n ps =>
    have h1 := fun size => aparts_congr (E := E) (fr := fr) (fr' := fr') (size := size) ps.toList 0 fun p hp => h p.2 (by simp only [List.mem_toArray, List.mem_map]; exact ⟨p, hp, rfl⟩)
    simp only [astep, alit, h1]
  case makeMap t r =>
    have h1 : r.map (ev E.G fr) = r.map (ev E.G fr') := opt_ev_congr fun y hy => h y (by simp [hy])
    simp only [astep, newObj, h1]
  case call c =>
    obtain ⟨f, args, ts⟩ := c
    cases f with
    | invoke => simp only [astep, hq]
    | value f =>
      have h1 := map_ev_congr (E := E) (fr := fr) (fr' := fr') (xs := args.toList) fun x hx => h x (by simp at hx; simp [Call.operands, hx])
      have h2 := h f (by simp [Call.operands])
      simp only [astep, h1, h2]
    | builtin b =>
      have h1 : ∀ x ∈ args.toList, ev E.G fr x = ev E.G fr' x := fun x hx => h x (by simp at hx; simp [Call.operands, hx])
      cases b <;> try (simp only [astep, hq]; done)
      have h2 : aapp E H fr args ts = aapp E H fr' args ts := by
        simp only [aapp]
        split
        · rename_i e _; rw [e] at h1; simp only [List.mem_cons, List.not_mem_nil, or_false, forall_eq_or_imp, forall_eq] at h1; simp only [h1]
        · rfl
      simp only [astep, h2]
  all_goals first
    | (simp only [astep, hq]; done)
    | (simp only [List.mem_toArray, List.mem_cons, List.not_mem_nil, or_false, forall_eq_or_imp, forall_eq] at h
       simp only [astep, newObj, astore, amapset, h])
    | (simp only [astep, newObj])

/-- What lies outside F stays. -/
def Agree (F : Nat → Prop) (H H' : Hp) : Prop := ∀ b, H b ≠ none → ¬ F b → H' b = H b
theorem astep_calm {o : Op} (hc : calm o = true) : astep E F o fr H K Kp = (match aq E H fr o with | some v => K v H | none => False) := by
  cases o <;> simp only [calm, Bool.false_eq_true] at hc <;> try rfl
  case call c =>
    obtain ⟨f, args, ts⟩ := c
    cases f with
    | invoke => simp at hc
    | value => simp at hc
    | builtin b => cases b <;> simp at hc <;> rfl
theorem astore_upd {t : TypeId} {p x : Operand} {q : Nat × Hp} (h : astore E H fr t p x = some q) : ∃ o, q.2 = upd H q.1 o := by
  simp only [astore] at h
  split at h <;> first | (cases h; done) | skip
  split at h <;> first | (cases h; done) | skip
  simp only [Option.bind_eq_some_iff, Option.ite_none_right_eq_some] at h
  obtain ⟨_, _, _, _, _, _, _, h⟩ := h
  cases h
  exact ⟨_, rfl⟩
theorem amapset_upd {t : TypeId} {m k x : Operand} {q : Nat × Hp} (h : amapset E H fr t m k x = some q) : ∃ o, q.2 = upd H q.1 o := by
  simp only [amapset] at h
  split at h <;> first | (cases h; done) | skip
  split at h <;> first | (cases h; done) | skip
  rw [Option.map_eq_some_iff] at h
  obtain ⟨_, _, rfl⟩ := h
  exact ⟨_, rfl⟩
theorem astep_mono {o : Op} {K' Kp' : AV → Hp → Prop} (hk : ∀ v H', Agree F H H' → K v H' → K' v H') (hp : ∀ v H', Kp v H' → Kp' v H') (h : astep E F o fr H K Kp) : astep E F o fr H K' Kp' := by
  have new : ∀ {b : Nat} {o : AObj}, H b = none → Agree F H (upd H b (some o)) := fun {b o} hb b' h1 _ => by
    have hne : b' ≠ b := fun e => h1 (e ▸ hb)
    simp [upd, hne]
  have set : ∀ {b : Nat} {o : Option AObj}, F b → Agree F H (upd H b o) := fun {b o} hb b' _ h1 => by
    have hne : b' ≠ b := fun e => h1 (e ▸ hb)
    simp [upd, hne]
  have same : Agree F H H := fun _ _ _ => rfl
  unfold astep at *
  split at h
  case h_9 => split at h <;> first | exact h.elim | exact hp _ _ h
  case h_10 =>
    split at h <;> first | exact h.elim | skip
    · exact ⟨h.1, fun e => hk _ _ same (h.2.1 e), fun e b hb => hk _ _ (new hb) (h.2.2 e b hb)⟩
    · split at h <;> first | exact h.elim | skip
      obtain ⟨h1, h2, h3, h4, h5, h6⟩ := h
      refine ⟨h1, h2, h3, h4, h5, fun b' hb => hk _ _ (fun b'' g1 g2 => ?_) (h6 b' hb)⟩
      have hne : b'' ≠ _ := fun e => g2 (e ▸ h5)
      have hne2 : b'' ≠ b' := fun e => by
        rcases hb with hb | hb
        · exact hne (e.trans hb)
        · exact g1 (e ▸ hb)
      simp [upd, hne, hne2]
  case h_11 =>
    split at h <;> first | exact h.elim | skip
    obtain ⟨args', H0, R, h1, h2, h3, h4, h5⟩ := h
    refine ⟨args', H0, R, h1, h2, h3, h4, fun ae H' hr hb => ?_⟩
    have := h5 ae H' hr hb
    cases ae
    · refine hk _ _ (fun b g1 g2 => ?_) this
      have e0 : H0 b = none := by
        cases e : H0 b with
        | none => rfl
        | some o => exact absurd (h4 b (by simp [e])) g2
      have e1 : H' b = none := by
        cases e : H' b with
        | none => rfl
        | some o =>
          rcases hb b (by simp [e]) with h | h
          · exact absurd e0 h
          · exact absurd h g1
      simp [hjoin, e0, e1]
    · exact hp _ _ this
  case h_6 =>
    split at h <;> first | exact h.elim | skip
    rename_i q hq
    obtain ⟨o, e⟩ := astore_upd hq
    exact ⟨h.1, hk _ _ (by rw [e]; exact set h.1) h.2⟩
  case h_7 =>
    split at h <;> first | exact h.elim | skip
    rename_i q hq
    obtain ⟨o, e⟩ := amapset_upd hq
    exact ⟨h.1, hk _ _ (by rw [e]; exact set h.1) h.2⟩
  case h_8 =>
    split at h <;> first | exact h.elim | skip
    rename_i q hq
    obtain ⟨o, e⟩ := amapset_upd hq
    exact ⟨h.1, hk _ _ (by rw [e]; exact set h.1) h.2⟩
  all_goals
    split at h <;> first
      | exact h.elim
      | exact fun b hb => hk _ _ (new hb) (h b hb)
      | exact hk _ _ same h
      | exact h.imp (hk _ _ same) fun h b hb => hk _ _ (new hb) (h b hb)
end
end Go.Al
