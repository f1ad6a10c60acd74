/- The little logic: loops over what is numbered, with all kept that the loop does not turn. -/
import Derived.Test.YtlokndnkpleegaaAlQ2
import Derived.Test.YtlokndnkpleegaaAlAx
import Derived.Test.YtlokndnkpleegaaAlZ
set_option linter.unusedSimpArgs false
set_option linter.unusedVariables false
set_option maxRecDepth 10000
namespace Go.Al
section
variable {E : Env} {N : Nat} {Q : APost} {fr : Fr} {H : Hp} {c : Code}
/-- in the slots l the frames are one -/
def agree (l : List Nat) (f g : Fr) : Prop := ∀ t, l.elem t = true → g t = f t
theorem agree.refl (l : List Nat) (f : Fr) : agree l f f := fun _ _ => rfl
theorem agree.nil (f g : Fr) : agree [] f g := fun _ h => by cases h
theorem agree.cons {l : List Nat} {f g : Fr} {t : Nat} (h : g t = f t) (ha : agree l f g) : agree (t :: l) f g := fun i hi => by
  by_cases e : i = t
  · rw [e]; exact h
  · refine ha i ?_
    have h1 : i ∈ t :: l := by simpa using hi
    have h2 := (List.mem_cons.1 h1).resolve_left e
    simpa using h2
theorem agree.upd {l : List Nat} {f g : Fr} {i : Nat} {v : AV} (h : l.elem i = false) (ha : agree l f g) : agree l f (upd g i v) := fun t ht => by
  have : t ≠ i := fun e => by rw [e, h] at ht; cases ht
  rw [upd_ne _ _ this]; exact ha t ht
theorem agree.same {l : List Nat} {f g k : Fr} (h : ∀ t, k t = g t) (ha : agree l f g) : agree l f k := fun t ht => (h t).trans (ha t ht)
theorem agree.sub {l l2 : List Nat} {f g k : Fr} (h : agree l2 g k) (hs : l.all l2.elem = true) (ha : agree l f g) : agree l f k := fun t ht =>
  (h t (List.all_eq_true.1 hs t (by simpa using ht))).trans (ha t ht)
theorem awp_name (h : ∀ fr' H', (∀ t, fr' t = fr t) → (∀ b, H' b = H b) → awp E N c Q fr' H') : awp E N c Q fr H := h fr H (fun _ => rfl) (fun _ => rfl)
/-- A piece, and what holds where it ends as usual. -/
theorem awp_cutP (M : Fr → Hp → Prop) (h1 : ∀ K : Fr → Hp → Prop, (∀ fr H, M fr H → K fr H) → awp E N c (thenQ K Q) fr H) (h2 : ∀ fr H, M fr H → Q .normal fr H) : awp E N c Q fr H :=
  awp_mono (h1 M fun _ _ h => h) fun e fr H hq => by cases e <;> first | exact h2 _ _ hq | exact hq
/-- A loop of n rounds at most: I k holds at the head of round k. -/
theorem awp_each (m : List Nat) (n : Nat) (I : Nat → Fr → Hp → Prop) (h0 : I 0 fr H)
    (round : ∀ (k : Nat) fr' H', k ≤ n → I k fr' H' → agree m fr fr' → ∀ K : Fr → Hp → Prop, (∀ fr'' H'', k < n → I (k + 1) fr'' H'' → agree m fr' fr'' → K fr'' H'') → awp E N c (thenQ K Q) fr' H') : awp E N (.loop c) Q fr H := by
  refine awp_loopK (fun mm fr' H' => ∃ k, mm = n - k ∧ k ≤ n ∧ I k fr' H' ∧ agree m fr fr') n ⟨0, rfl, Nat.zero_le _, h0, agree.refl _ _⟩ ?_
  rintro mm fr' H' ⟨k, rfl, hk, hI, ha⟩ K hK
  exact round k fr' H' hk hI ha K fun fr'' H'' hlt hI' ha' => hK (n - (k + 1)) fr'' H'' (by omega) ⟨k + 1, rfl, hlt, hI', fun t ht => (ha' t ht).trans (ha t ht)⟩
/-- A loop with a measure. -/
theorem awp_while (m : List Nat) (n : Nat) (I : Nat → Fr → Hp → Prop) (h0 : I n fr H)
    (round : ∀ (k : Nat) fr' H', I k fr' H' → agree m fr fr' → ∀ K : Fr → Hp → Prop, (∀ k' fr'' H'', k' < k → I k' fr'' H'' → agree m fr' fr'' → K fr'' H'') → awp E N c (thenQ K Q) fr' H') : awp E N (.loop c) Q fr H := by
  refine awp_loopK (fun mm fr' H' => I mm fr' H' ∧ agree m fr fr') n ⟨h0, agree.refl _ _⟩ ?_
  rintro k fr' H' ⟨hI, ha⟩ K hK
  exact round k fr' H' hI ha K fun k' fr'' H'' hlt hI' ha' => hK k' fr'' H'' hlt ⟨hI', fun t ht => (ha' t ht).trans (ha t ht)⟩
theorem frz_osl (b sz : Nat) (l : List (List AV)) (sz' b' n : Nat) : frz b sz l (.osl sz' b' n) = if b' = b ∧ sz' = sz ∧ n = l.length then .isl sz l else .osl sz' b' n := Eq.trans rfl rfl
theorem off.frz {v : AV} {b : Nat} (h : off v b) (sz : Nat) (l : List (List AV)) : frz b sz l v = v := by
  cases v <;> try rfl
  rename_i s' b' n
  rw [frz_osl, if_neg]
  rintro ⟨rfl, _, _⟩
  exact h _ _ rfl
theorem OwnL.same {sz : Nat} {v : AV} {rows : List (List AV)} {H H' : Hp} (h : OwnL sz v rows H) (hH : ∀ b, H' b = H b) : OwnL sz v rows H' := by
  rcases h with h | ⟨b, e, hb⟩
  · exact .inl h
  · exact .inr ⟨b, e, (hH b).trans hb⟩
theorem OwnL.off {sz : Nat} {v : AV} {rows : List (List AV)} {H : Hp} (h : OwnL sz v rows H) {b : Nat} (ho : off v b) (o : Option AObj) : OwnL sz v rows (Al.upd H b o) := by
  rcases h with h | ⟨b', e, hb⟩
  · exact .inl h
  · refine .inr ⟨b', e, ?_⟩
    have : b' ≠ b := fun c => ho _ _ (by rw [e, c])
    rw [upd_ne _ _ this]; exact hb
theorem OwnL.new {sz : Nat} {v : AV} {rows : List (List AV)} {H : Hp} (h : OwnL sz v rows H) {b : Nat} (hb : H b = none) : Al.off v b := fun s n e => h.there s b n e hb
theorem touch_mp (F : Nat → Prop) (b : Nat) : (∀ x, atouch (.mp b) = some x → ¬ F x) = ¬ F b := by
  refine propext ⟨fun h => h b rfl, fun h x hx => by cases hx; exact h⟩
theorem touch_imp (F : Nat → Prop) (ks vs : List AV) : (∀ x, atouch (.imp ks vs) = some x → ¬ F x) = True := propext ⟨fun _ => trivial, fun _ _ h => by cases h⟩
theorem touch_nmp (F : Nat → Prop) : (∀ x, atouch .nmp = some x → ¬ F x) = True := propext ⟨fun _ => trivial, fun _ _ h => by cases h⟩
theorem awpA_osl {F : Nat → Prop} {ds : List (Option Nat)} {d : Option Nat} {rest : List Oper} {b sz by' len : Nat} {l ys : List (List AV)} (hH : H b = some (.rows sz l)) (hl : len = l.length) (hb : (l.length + ys.length) * by' ≤ 140737488355328) (hF : F b)
    (h : ∀ b', (b' = b ∨ H b' = none) → awpL E F ds Q rest (putF fr d (.osl sz b' (l.length + ys.length))) (Al.upd (Al.upd H b none) b' (some (.rows sz (l ++ ys))))) : awpA E F ds Q d rest fr H (some (sz, by', .osl sz b len, ys)) := by
  subst hl
  simp only [awpA, hH]
  exact ⟨trivial, trivial, trivial, hb, hF, h⟩
theorem frzO_rows (b sz : Nat) (l : List (List AV)) (sz' : Nat) (r : List (List AV)) : frzO b sz l (.rows sz' r) = .rows sz' (r.map fun x => x.map (frz b sz l)) := Eq.trans rfl rfl
theorem fresh_ne {b b' : Nat} {o : AObj} (h : H b = none) (h' : H b' = some o) : b ≠ b' := fun e => by rw [e, h'] at h; cases h
end
theorem EM : type_of% (And.intro @touch_mp (And.intro @touch_imp (And.intro @touch_nmp (And.intro (@ne_eq Nat) (And.intro not_true_eq_false (And.intro @and_false (And.intro @false_and not_false_eq_true))))))) := ⟨@touch_mp, @touch_imp, @touch_nmp, @ne_eq Nat, not_true_eq_false, @and_false, @false_and, not_false_eq_true⟩
end Go.Al
