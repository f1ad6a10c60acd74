/- Chapter 18: the value of an expression alone, by both; a program that puts it out. -/
import Derived.Test.YtlokndnkpleegaaMj2
import Derived.Test.YtlokndnkpleegaaMst
set_option linter.unusedSimpArgs false
set_option linter.unusedVariables false
set_option maxRecDepth 10000
namespace Go.Al
theorem pl_uses (n : Nat) : ∀ l : List Ex, szE l ≤ n → plE l = true → usesE l = [] := by
  induction n using Nat.strongRecOn with
  | _ n ih =>
    intro l hn h
    match l, hn, h with
    | [], _, _ => rw [usesE]
    | e :: l, hn, h =>
      have hz := e.sz_eq
      simp only [szE] at hn
      simp only [plE, Bool.and_eq_true] at h
      obtain ⟨h1, h2⟩ := h
      have w2 := ih (szE l) (by omega) l (Nat.le_refl _) h2
      obtain ⟨k, o, m, s, kids⟩ := e
      simp only [plX, Bool.and_eq_true, Bool.not_eq_true', Bool.or_eq_false_iff, decide_eq_false_iff_not] at h1
      obtain ⟨⟨⟨⟨q2, q3⟩, q4⟩, q5⟩, h1⟩ := h1
      simp only [Ex.kids] at hz
      have w1 := ih (szE kids) (by omega) kids (Nat.le_refl _) h1
      rw [usesE_cons, w2]
      simp only [Ex.kids, w1, useX, Ex.kind, q2, q3, q4, if_false, List.append_nil]
theorem pl_use {e : Ex} (h : plX e = true) : useX e = [] ∧ usesE e.kids = [] := by
  have h2 : plE [e] = true := by simp only [plE, h, Bool.and_true]
  have := pl_uses _ [e] (Nat.le_refl _) h2
  rw [usesE_cons] at this
  simp only [List.append_eq_nil_iff] at this
  exact ⟨this.1.1, this.1.2⟩
theorem applyI_err {op : Int} (h1 : 4 ≤ op) (h2 : op ≤ 15) (a b : Int) (h : ¬ (applyI op a b).2 = 0) : applyI op a b = (0, 14) := by
  have hc : op = 4 ∨ op = 5 ∨ op = 6 ∨ op = 7 ∨ op = 8 ∨ op = 9 ∨ op = 10 ∨ op = 11 ∨ op = 12 ∨ op = 13 ∨ op = 14 ∨ op = 15 := by omega
  have k7 : applyI 7 a b = if b = 0 then (0, 14) else (IntKind.wrap .u32 (a.tdiv b), 0) := rfl
  have k8 : applyI 8 a b = if b = 0 then (0, 14) else (a.tmod b, 0) := rfl
  have k12 : applyI 12 a b = if 31 < b then (0, 0) else (IntKind.wrap .u32 (a * 2 ^ (min b.toNat 32)), 0) := rfl
  have k13 : applyI 13 a b = if 31 < b then (0, 0) else (a.fdiv (2 ^ (min b.toNat 32)), 0) := rfl
  rcases hc with rfl | rfl | rfl | rfl | rfl | rfl | rfl | rfl | rfl | rfl | rfl | rfl
  case inr.inr.inr.inl =>
    rw [k7] at h ⊢
    by_cases hb : b = 0
    · rw [if_pos hb]
    · rw [if_neg hb] at h; exact absurd rfl h
  case inr.inr.inr.inr.inl =>
    rw [k8] at h ⊢
    by_cases hb : b = 0
    · rw [if_pos hb]
    · rw [if_neg hb] at h; exact absurd rfl h
  case inr.inr.inr.inr.inr.inr.inr.inr.inl =>
    rw [k12] at h
    by_cases hb : 31 < b
    · rw [if_pos hb] at h; exact absurd rfl h
    · rw [if_neg hb] at h; exact absurd rfl h
  case inr.inr.inr.inr.inr.inr.inr.inr.inr.inl =>
    rw [k13] at h
    by_cases hb : 31 < b
    · rw [if_pos hb] at h; exact absurd rfl h
    · rw [if_neg hb] at h; exact absurd rfl h
  all_goals exact absurd rfl h
end Go.Al
namespace Go.Proofs.Ytlokndnkpleegaa
open Go.Al
theorem right_sz (n : Nat) : ∀ (l : List Ex) (level : Int), szE l ≤ n → 1 ≤ level → rightE l level = true → 5 * szE l ≤ l.length * (6 ^ (25 - level).toNat - 1) := by
  induction n using Nat.strongRecOn with
  | _ n ih =>
    intro l level hn hlv hr
    match l, hn, hr with
    | [], _, _ => simp [szE]
    | e :: l, hn, hr =>
      rw [rightE_cons, rightX_eq] at hr
      simp only [Bool.and_eq_true] at hr
      obtain ⟨⟨⟨hh, hk⟩, hkr⟩, hl⟩ := hr
      have hz := e.sz_eq
      simp only [szE] at hn ⊢
      have w1 := ih (szE e.kids) (by omega) e.kids (level + 1) (Nat.le_refl _) (by omega) hkr
      have w2 := ih (szE l) (by omega) l level (Nat.le_refl _) hlv hl
      have hlv2 : level ≤ 24 := by
        simp only [headX, Bool.and_eq_true, decide_eq_true_eq] at hh; exact hh.1.1.1
      have hkl : e.kids.length ≤ 6 := by
        unfold kidsX at hk
        repeat' split at hk
        all_goals first | (cases hk; done) | (simp only [Bool.and_eq_true, decide_eq_true_eq] at hk; omega)
      have hp : 6 ^ (25 - level).toNat = 6 * 6 ^ (25 - (level + 1)).toNat := by
        rw [show (25 - level).toNat = (25 - (level + 1)).toNat + 1 by omega, Nat.pow_succ]; omega
      have hpos : 1 ≤ 6 ^ (25 - (level + 1)).toNat := Nat.pow_pos (by decide)
      have w3 : e.kids.length * (6 ^ (25 - (level + 1)).toNat - 1) ≤ 6 * (6 ^ (25 - (level + 1)).toNat - 1) := Nat.mul_le_mul_right _ hkl
      rw [List.length_cons, show (l.length + 1) * (6 ^ (25 - level).toNat - 1) = l.length * (6 ^ (25 - level).toNat - 1) + (6 ^ (25 - level).toNat - 1) by rw [Nat.add_mul, Nat.one_mul]]
      generalize 6 ^ (25 - level).toNat = X at *
      generalize 6 ^ (25 - (level + 1)).toNat = Y at *
      generalize l.length * (X - 1) = T at *
      generalize e.kids.length * (Y - 1) = U at *
      omega
theorem right_val (n : Nat) : ∀ (e : Ex) (level : Int), e.sz ≤ n → rightX e level = true → plX e = true → ∃ p, valX (n + 1) e = some p := by
  induction n using Nat.strongRecOn with
  | _ n ih =>
    intro e level hn hr hp
    rw [rightX_eq] at hr
    simp only [Bool.and_eq_true] at hr
    obtain ⟨⟨hh, hk⟩, hkr⟩ := hr
    have hz := e.sz_eq
    obtain ⟨k, o, m, s, l⟩ := e
    simp only [plX, Bool.and_eq_true, Bool.not_eq_true', Bool.or_eq_false_iff, decide_eq_false_iff_not] at hp
    obtain ⟨⟨⟨⟨q2, q3⟩, q4⟩, q5⟩, hpl⟩ := hp
    simp only [Ex.kids, Ex.kind, Ex.op] at hz hk hkr
    rw [valX]
    by_cases k1 : k = 1
    · rw [if_pos k1]; exact ⟨_, rfl⟩
    rw [if_neg k1]
    obtain ⟨n', rfl⟩ : ∃ n', n = n' + 1 := ⟨n - 1, by omega⟩
    have kid : ∀ {j : Nat} {a : Ex}, l[j]? = some a → ∃ p, valX (n' + 1) a = some p := fun {j a} hj => by
      have hm := List.mem_of_getElem? hj
      have hs := szE_mem hm
      refine ih n' (by omega) a (level + 1) (by omega) ?_ ?_
      · clear ih hz hn hk hs hpl hj hh
        induction l with
        | nil => cases hm
        | cons x l ihl =>
          rw [rightE_cons, Bool.and_eq_true] at hkr
          rcases List.mem_cons.1 hm with rfl | hm
          · exact hkr.1
          · exact ihl hkr.2 hm
      · rw [plE_all, List.all_eq_true] at hpl
        exact hpl a hm
    have hlen : 1 ≤ l.length ∧ (k = 7 ∨ 2 ≤ l.length) := by
      unfold kidsX at hk
      repeat' split at hk
      all_goals first | (cases hk; done) | (simp only [Bool.and_eq_true, decide_eq_true_eq] at hk; omega) | (exfalso; simp_all; done) | omega
    have h0 := List.getElem?_eq_getElem (show 0 < l.length by omega)
    obtain ⟨p0, hp0⟩ := kid h0
    rw [h0]
    simp only [Option.bind_some, hp0]
    split
    · exact ⟨_, rfl⟩
    split
    · exact ⟨_, rfl⟩
    split
    · exact ⟨_, rfl⟩
    rename_i hk7 _
    have h1 := List.getElem?_eq_getElem (show 1 < l.length by omega)
    obtain ⟨p1, hp1⟩ := kid h1
    rw [h1]
    simp only [Option.bind_some, hp1]
    split
    · exact ⟨_, rfl⟩
    split <;> exact ⟨_, rfl⟩
theorem right_mem {l : List Ex} {level : Int} (h : rightE l level = true) : ∀ a ∈ l, rightX a level = true := by
  induction l with
  | nil => intro a ha; cases ha
  | cons x l ih =>
    rw [rightE_cons, Bool.and_eq_true] at h
    intro a ha
    rcases List.mem_cons.1 ha with rfl | ha
    · exact h.1
    · exact ih h.2 a ha
/-- a value alone is a value in a run -/
theorem val_ev (cx : Cx) (rs : Str → Bool × Int) (ow : List Int) (st : RS) (n : Nat) : ∀ (e : Ex) (level : Int) (p : Int × Int), rightX e level = true → plX e = true → valX n e = some p → (p.2 = 0 → evE cx n rs ow e st = some (.val p.1 st)) ∧ (¬ p.2 = 0 → p = (0, 14) ∧ evE cx n rs ow e st = some (.fin 2 st)) := by
  induction n with
  | zero => intro e level p _ _ h; simp [valX] at h
  | succ n ih =>
    intro e level p hr hp h
    rw [rightX_eq] at hr
    simp only [Bool.and_eq_true] at hr
    obtain ⟨⟨hh, hk⟩, hkr⟩ := hr
    obtain ⟨k, o, m, s, l⟩ := e
    simp only [plX, Bool.and_eq_true, Bool.not_eq_true', Bool.or_eq_false_iff, decide_eq_false_iff_not] at hp
    obtain ⟨⟨⟨⟨q2, q3⟩, q4⟩, q5⟩, hpl⟩ := hp
    rw [plE_all, List.all_eq_true] at hpl
    simp only [Ex.kids, Ex.kind, Ex.op] at hk hkr
    rw [valX] at h
    simp only [evE]
    by_cases k1 : k = 1
    · rw [if_pos k1] at h ⊢
      cases h
      exact ⟨fun _ => rfl, fun h => (h (by trivial)).elim⟩
    rw [if_neg k1] at h ⊢
    rw [if_neg q2, if_neg q3, if_neg q4, if_neg q5]
    obtain ⟨a, ha, h⟩ := Option.bind_eq_some_iff.1 h
    obtain ⟨⟨x, f⟩, hx, h⟩ := Option.bind_eq_some_iff.1 h
    have hma := List.mem_of_getElem? ha
    have iha := ih a (level + 1) _ (right_mem hkr a hma) (hpl a hma) hx
    simp only [ha]
    dsimp only at h iha
    by_cases hf : ¬ f = 0
    · rw [if_pos hf] at h
      cases h
      obtain ⟨e1, e2⟩ := iha.2 hf
      cases e1
      refine ⟨fun h => absurd h (by simp), fun _ => ⟨rfl, ?_⟩⟩
      rw [e2]
      by_cases k7 : k = 7
      · rw [if_pos k7]; rfl
      · rw [if_neg k7]
        have hlen : 2 ≤ l.length := by
          unfold kidsX at hk
          repeat' split at hk
          all_goals first | (cases hk; done) | (simp only [Bool.and_eq_true, decide_eq_true_eq] at hk; omega) | (exfalso; simp_all; done) | omega
        simp only [List.getElem?_eq_getElem (show 1 < l.length by omega)]
        split <;> rfl
    rw [if_neg hf] at h
    have hf0 : f = 0 := by omega
    subst hf0
    have e1 := iha.1 rfl
    rw [e1]
    by_cases k7 : k = 7
    · rw [if_pos k7] at h ⊢
      cases h
      exact ⟨fun _ => rfl, fun h => (h (by trivial)).elim⟩
    rw [if_neg k7] at h ⊢
    have hlen : 2 ≤ l.length ∧ (k = 6 → 4 ≤ o ∧ o ≤ 15) ∧ (k = 6 ∨ k = 8 ∨ k = 9) := by
      unfold kidsX at hk
      repeat' split at hk
      all_goals first | (cases hk; done) | (simp only [Bool.and_eq_true, decide_eq_true_eq] at hk; omega) | (exfalso; simp_all; done) | omega
    have hb := List.getElem?_eq_getElem (show 1 < l.length by omega)
    have hmb := List.getElem_mem (show 1 < l.length by omega)
    generalize l[1] = b at hb hmb
    simp only [hb]
    by_cases ks : (k = 8 ∧ x = 0) ∨ (k = 9 ∧ ¬ x = 0)
    · rw [if_pos ks] at h
      cases h
      refine ⟨fun _ => ?_, fun h => (h (by trivial)).elim⟩
      rw [if_neg (by omega)]
      simp only [bindR]
      rw [if_pos (by rcases ks with ⟨h1, h2⟩ | ⟨h1, h2⟩ <;> simp [h1, h2])]
    rw [if_neg ks, hb] at h
    simp only [Option.bind_some] at h
    obtain ⟨⟨y, g⟩, hy, h⟩ := Option.bind_eq_some_iff.1 h
    have ihb := ih b (level + 1) _ (right_mem hkr b hmb) (hpl b hmb) hy
    dsimp only at h ihb
    have kcond : ¬ k = 6 → ¬ (decide (x = 0) = decide (k = 8)) := fun h6 => by
      rcases hlen.2.2 with h | h | h
      · exact absurd h h6
      · subst h
        have : ¬ x = 0 := fun hx0 => ks (.inl ⟨rfl, hx0⟩)
        simp [this]
      · subst h
        have : x = 0 := by
          by_cases hx0 : x = 0
          · exact hx0
          · exact absurd (.inr ⟨rfl, hx0⟩) ks
        simp [this]
    by_cases hg : ¬ g = 0
    · rw [if_pos hg] at h
      cases h
      obtain ⟨z1, z2⟩ := ihb.2 hg
      cases z1
      refine ⟨fun h => absurd h (by simp), fun _ => ⟨rfl, ?_⟩⟩
      by_cases k6 : k = 6
      · rw [if_pos k6]
        simp only [bindR, z2]
      · rw [if_neg k6]
        simp only [bindR]
        rw [if_neg (kcond k6), z2]
    rw [if_neg hg] at h
    have hg0 : g = 0 := by omega
    subst hg0
    have e2 := ihb.1 rfl
    by_cases k6 : k = 6
    · rw [if_pos k6] at h ⊢
      cases h
      simp only [bindR, e2]
      by_cases hz : (applyI o x y).2 = 0
      · rw [if_pos hz]; exact ⟨fun _ => rfl, fun h => absurd hz h⟩
      · rw [if_neg hz]
        exact ⟨fun h => absurd h hz, fun _ => ⟨applyI_err (hlen.2.1 k6).1 (hlen.2.1 k6).2 x y hz, rfl⟩⟩
    · rw [if_neg k6] at h ⊢
      cases h
      simp only [bindR]
      rw [if_neg (kcond k6), e2]
      exact ⟨fun _ => rfl, fun h => (h (by trivial)).elim⟩
end Go.Proofs.Ytlokndnkpleegaa
