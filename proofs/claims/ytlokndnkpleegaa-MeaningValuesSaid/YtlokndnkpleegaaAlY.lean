/- The little logic: functions that are handed all that is owned. -/
import Derived.Test.YtlokndnkpleegaaAlX
set_option linter.unusedSimpArgs false
set_option linter.unusedVariables false
set_option maxRecDepth 10000
namespace Go.Al
/-- what is there, but for the blocks M, stays as it is -/
def keeps (M : Nat → Prop) (H H' : Hp) : Prop := ∀ b o, ¬ M b → H b = some o → H' b = some o
theorem keeps.refl (M : Nat → Prop) (H : Hp) : keeps M H H := fun _ _ _ h => h
theorem keeps.trans {M : Nat → Prop} {H H1 H2 : Hp} (h : keeps M H H1) (h' : keeps M H1 H2) : keeps M H H2 := fun b o hm hb => h' b o hm (h b o hm hb)
theorem keeps.new {M : Nat → Prop} {H H1 : Hp} (h : keeps M H H1) {b : Nat} (hb : H b = none) (o : Option AObj) : keeps M H (upd H1 b o) := fun b' o' hm hb' => by
  have : b' ≠ b := fun e => by rw [e, hb] at hb'; cases hb'
  simp only [upd, if_neg this]; exact h b' o' hm hb'
theorem keeps.set {M : Nat → Prop} {H H1 : Hp} (h : keeps M H H1) {b : Nat} (hb : M b) (o : Option AObj) : keeps M H (upd H1 b o) := fun b' o' hm hb' => by
  have : b' ≠ b := fun e => hm (e ▸ hb)
  simp only [upd, if_neg this]; exact h b' o' hm hb'
theorem keeps.mono {M M' : Nat → Prop} {H H1 : Hp} (h : keeps M H H1) (hm : ∀ b, M b → M' b) : keeps M' H H1 := fun b o hb h1 => h b o (fun c => hb (hm b c)) h1
theorem hjoin_self (H' H : Hp) : hjoin H' H H = H' := by
  funext b
  unfold hjoin
  cases h : H' b with
  | some o => rfl
  | none =>
    cases h2 : H b with
    | some o => simp
    | none => simp [h2]
theorem awpC_whole {E : Env} {F : Nat → Prop} {ds : List (Option Nat)} {Q : APost} {d : Option Nat} {rest : List Oper} {fr : Fr} {H : Hp} {g : FuncId} {args args' : List AV} {R : AV → Hp → Prop}
    (hc : Con E g args' H (fun ae H' => ∃ v, ae = .ret v ∧ R v H')) (hs : SubL args args') (hF : ∀ b, F b) (h : ∀ v H', R v H' → awpL E F ds Q rest (putF fr d v) H') : awpC E F ds Q d rest fr H g args := by
  refine awpC_con hc hs (fun b o h => h) (fun b _ => hF b) fun ae H' ⟨v, e, hr⟩ _ => ?_
  subst e
  rw [hjoin_self]
  exact h v H' hr
/-- a function that makes what it hands back -/
theorem awpC_makes {E : Env} {F : Nat → Prop} {ds : List (Option Nat)} {Q : APost} {d : Option Nat} {rest : List Oper} {fr : Fr} {H : Hp} {g : FuncId} {args args' : List AV} {R : AV → Hp → Prop}
    (hc : Con E g args' emp (fun ae H' => ∃ v, ae = .ret v ∧ R v H')) (hs : SubL args args')
    (h : ∀ v H' H2, R v H' → keeps (fun _ => False) H H2 → (∀ b o, H' b = some o → H2 b = some o ∧ H b = none) → awpL E F ds Q rest (putF fr d v) H2) : awpC E F ds Q d rest fr H g args := by
  refine awpC_con hc hs (hsub_emp H) (fun b hb => absurd rfl hb) fun ae H' ⟨v, e, hr⟩ hnew => ?_
  subst e
  have fresh : ∀ b o, H' b = some o → H b = none := fun b o hb => by
    rcases hnew b (by rw [hb]; simp) with h | h
    · exact absurd rfl h
    · exact h
  refine h v H' _ hr (fun b o _ hb => ?_) (fun b o hb => ⟨?_, fresh b o hb⟩)
  · unfold hjoin
    cases h2 : H' b with
    | some o' => have := fresh b o' h2; rw [hb] at this; cases this
    | none => simp [emp, hb]
  · simp only [hjoin, hb]
/-- the end of such a function -/
theorem Gives.whole {R : AV → Hp → Prop} {v : AV} {H : Hp} (h : R v H) : Gives (fun ae H' => ∃ v, ae = .ret v ∧ R v H') v H :=
  Gives.self ⟨v, rfl, h⟩
/-- two values that own no block in common -/
def apart (v w : AV) : Prop := ∀ b s n s' n', v = .osl s b n → w ≠ .osl s' b n'
theorem apart.nsl (w : AV) : apart .nsl w := fun _ _ _ _ _ h => by cases h
theorem apart.symm {v w : AV} (h : apart v w) : apart w v := fun b s n s' n' h1 h2 => h b s' n' s n h2 h1
theorem awpA_grow {E : Env} {F : Nat → Prop} {ds : List (Option Nat)} {Q : APost} {d : Option Nat} {rest : List Oper} {fr : Fr} {H : Hp} {sz by' : Nat} {v : AV} {rows ys : List (List AV)} (hv : OwnL sz v rows H) (hb : (rows.length + ys.length) * by' ≤ 140737488355328) (hF : ∀ b, F b)
    (h : ∀ v' H', OwnL sz v' (rows ++ ys) H' → (∀ b o, H b = some o → v ≠ .osl sz b rows.length → H' b = some o) → (∀ w, apart v w → (∀ s b n, w = .osl s b n → H b ≠ none) → apart v' w) → awpL E F ds Q rest (putF fr d v') H') : awpA E F ds Q d rest fr H (some (sz, by', v, ys)) := by
  rcases hv with ⟨rfl, rfl⟩ | ⟨b, rfl, hH⟩
  · simp only [List.nil_append, List.length_nil, Nat.zero_add] at h hb
    refine ⟨hb, fun e => h _ _ (.inl ⟨rfl, e⟩) (fun _ _ hb _ => hb) (fun w _ _ => apart.nsl w), fun e b hbn => h _ _ (.inr ⟨b, rfl, by simp [upd]⟩) (fun b' o hb' _ => ?_) fun w _ hw => ?_⟩
    · have : b' ≠ b := fun c => by rw [c, hbn] at hb'; cases hb'
      simp [upd, this, hb']
    · intro b1 s n s' n' h1 h2
      cases h1
      exact hw s' _ n' h2 hbn
  · simp only [awpA, hH]
    refine ⟨trivial, trivial, trivial, hb, hF b, fun b' hb' => ?_⟩
    refine h _ _ (.inr ⟨b', by simp, by simp [upd]⟩) (fun b'' o h1 h2 => ?_) fun w ha hw => ?_
    · have n1 : b'' ≠ b := fun c => h2 (by rw [c])
      have n2 : b'' ≠ b' := fun c => by
        rcases hb' with e | e
        · exact n1 (c.trans e)
        · rw [← c, h1] at e; cases e
      simp [upd, n1, n2, h1]
    · intro b1 s n s' n' h1 h2
      cases h1
      rcases hb' with e | e
      · exact ha b _ _ s' n' rfl (by rw [h2, e])
      · exact hw s' _ n' h2 e
theorem OwnL.there {sz : Nat} {v : AV} {rows : List (List AV)} {H : Hp} (h : OwnL sz v rows H) : ∀ s b n, v = .osl s b n → H b ≠ none := fun s b n e => by
  rcases h with ⟨rfl, _⟩ | ⟨b', rfl, hb⟩
  · cases e
  · cases e; rw [hb]; simp
/-- what another list that grew turned is not this one -/
theorem OwnL.keep {sz sz' : Nat} {v w : AV} {rows r2 : List (List AV)} {H H' : Hp} (h : OwnL sz v rows H) (ha : apart w v) (hk : ∀ b o, H b = some o → w ≠ .osl sz' b r2.length → H' b = some o) : OwnL sz v rows H' := by
  rcases h with h | ⟨b, rfl, hb⟩
  · exact .inl h
  · exact .inr ⟨b, rfl, hk b _ hb fun e => ha b sz' r2.length sz rows.length e rfl⟩
/-- a list that grew, sealed in the midst of a function -/
theorem awp_seal2 {E : Env} {N : Nat} {Q : APost} {c : Code} {fr : Fr} {H : Hp} {sz : Nat} {rows : List (List AV)} {i : Nat} (hv : OwnL sz (fr i) rows H)
    (h : ∀ fr' H', fr' i = .isl sz rows → (∀ j, j ≠ i → apart (fr i) (fr j) → fr' j = fr j) → (∀ b o, H b = some o → fr i ≠ .osl sz b rows.length → H' b = some o) → awp E N c Q fr' H') : awp E N c Q fr H := by
  rcases hv with ⟨h1, rfl⟩ | ⟨b, h1, hb⟩
  · refine awp_weak (fr' := upd fr i (.isl sz [])) (fun t => ?_) (fun b o h => h) (h _ H (upd_same _ _ _) (fun j hj _ => upd_ne _ _ hj) (fun b o h _ => h))
    by_cases e : t = i
    · subst e; rw [upd_same, h1]; exact Sub.nsl sz
    · rw [upd_ne _ _ e]; exact Sub.refl _
  · refine awp_freeze hb (h _ _ ?_ (fun j hj ha => ?_) (fun b' o h2 h3 => ?_))
    · rw [h1]; exact frz_self b sz rows
    · cases hf : fr j <;> try rfl
      rename_i s' b' n'
      simp only [frz]
      rw [if_neg]
      rintro ⟨rfl, _, _⟩
      exact ha b' _ _ s' n' h1 hf
    · have : b' ≠ b := fun e => h3 (by rw [h1, e])
      simp only [upd, if_neg this, h2]
theorem apart_int (v : AV) (k : IntKind) (n : Int) : apart v (.int k n) := fun _ _ _ _ _ _ h => by cases h
theorem apart_ptr (v : AV) (s b i j : Nat) : apart v (.ptr s b i j) := fun _ _ _ _ _ _ h => by cases h
theorem apart_isl (v : AV) (s : Nat) (l : List (List AV)) : apart v (.isl s l) := fun _ _ _ _ _ _ h => by cases h
theorem apart_str (v : AV) (s : List UInt8) : apart v (.str s) := fun _ _ _ _ _ _ h => by cases h
theorem apart_bool (v : AV) (b : Bool) : apart v (.bool b) := fun _ _ _ _ _ _ h => by cases h
theorem apart_bool' (v : AV) : apart v .nsl := fun _ _ _ _ _ _ h => by cases h
theorem apart_undef (v : AV) : apart v .undef := fun _ _ _ _ _ _ h => by cases h
theorem apart_tup (v : AV) (l : List AV) : apart v (.tup l) := fun _ _ _ _ _ _ h => by cases h
theorem apart_mp (v : AV) (b : Nat) : apart v (.mp b) := fun _ _ _ _ _ _ h => by cases h
/-- a value that owns no part of a block -/
def off (v : AV) (b : Nat) : Prop := ∀ s n, v ≠ .osl s b n
/-- THE CONTRACT OF A FUNCTION that hands a new list back. -/
def MCon (E : Env) (g : FuncId) (args : List AV) (sz : Nat) (rows : List (List AV)) : Prop := Con E g args emp (fun ae H' => ∃ v, ae = .ret v ∧ OwnL sz v rows H')
theorem MCon.pure {E : Env} {g : FuncId} {args : List AV} {sz : Nat} {rows : List (List AV)} (h : MCon E g args sz rows) : PCon E g args (.isl sz rows) := by
  refine ⟨h.1, fun w0 S0 vs h1 h2 => ?_⟩
  refine (h.2 w0 S0 vs h1 h2).mono fun e w ⟨ae, H', S', a1, a2, v, a3, a4⟩ => ?_
  subst a3
  simp only [ERel] at a2
  obtain ⟨x, rfl, hx⟩ := a2
  obtain ⟨v', H2, ht, e1, e2⟩ := a4.gives1 (v' := .isl sz rows) rfl
  obtain ⟨S2, _, s2, r2⟩ := ht _ _ _ _ _ a1 hx
  cases e1
  subst e2
  exact ⟨.ret _, _, S2, s2, by simp only [ERel]; exact ⟨x, rfl, r2⟩, rfl, rfl⟩
theorem awpC_own {E : Env} {F : Nat → Prop} {ds : List (Option Nat)} {Q : APost} {d : Option Nat} {rest : List Oper} {fr : Fr} {H : Hp} {g : FuncId} {args : List AV} {sz : Nat} {rows : List (List AV)}
    (hc : MCon E g args sz rows) (h : ∀ v H2, OwnL sz v rows H2 → (∀ b o, H b = some o → H2 b = some o) → (∀ b o, H b = some o → off v b) → awpL E F ds Q rest (putF fr d v) H2) : awpC E F ds Q d rest fr H g args := by
  refine awpC_makes hc (SubL.refl _) fun v H' H2 hR hk hn => ?_
  refine h v H2 ?_ (fun b o hb => hk b o (fun h => h) hb) (fun b o hb s n e => ?_)
  · rcases hR with hR | ⟨b, e, hb⟩
    · exact .inl hR
    · exact .inr ⟨b, e, (hn b _ hb).1⟩
  · rcases hR with ⟨e2, _⟩ | ⟨b', e2, hb'⟩
    · rw [e2] at e; cases e
    · rw [e2] at e
      cases e
      rw [(hn b _ hb').2] at hb
      cases hb
theorem MCon.gives {sz : Nat} {v : AV} {rows : List (List AV)} {H : Hp} (h : OwnL sz v rows H) : Gives (fun ae H' => ∃ v, ae = .ret v ∧ OwnL sz v rows H') v H := Gives.whole h
end Go.Al
