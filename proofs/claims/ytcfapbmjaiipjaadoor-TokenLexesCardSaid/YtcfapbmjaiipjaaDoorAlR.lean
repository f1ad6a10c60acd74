/- The little logic, eighteenth part: rules for use. -/
import Derived.Test.YtcfapbmjaiipjaaDoorAlQ
import Derived.IntWalk
set_option linter.unusedSimpArgs false
set_option linter.unusedVariables false
namespace Go.Al
section
variable {E : Env} {N : Nat} {F : Nat → Prop} {ds : List (Option Nat)} {Q : APost} {d : Option Nat} {rest : List Oper} {fr : Fr} {H : Hp}

/-- A piece, and what holds behind it. -/
theorem awp_cut {x y : Code} (M : Fr → Hp → Prop) (h1 : awp E N x (thenQ M Q) fr H) (h2 : ∀ fr H, M fr H → awp E N y Q fr H) : awp E N (.seq x y) Q fr H :=
  awp_seq (awp_mono h1 fun e fr H hq => by cases e <;> first | exact h2 _ _ hq | exact hq)
theorem awp_cutK {x y : Code} (M : Fr → Hp → Prop) (h1 : ∀ K : Fr → Hp → Prop, (∀ fr H, M fr H → K fr H) → awp E N x (thenQ K Q) fr H) (h2 : ∀ fr H, M fr H → awp E N y Q fr H) : awp E N (.seq x y) Q fr H :=
  awp_cut M (h1 M fun _ _ h => h) h2
theorem awp_loopK {c : Code} (I : Nat → Fr → Hp → Prop) (n : Nat) (h0 : I n fr H) (round : ∀ n fr H, I n fr H → ∀ K : Fr → Hp → Prop, (∀ m fr' H', m < n → I m fr' H' → K fr' H') → awp E N c (thenQ K Q) fr H) : awp E N (.loop c) Q fr H :=
  awp_loop I n h0 fun n fr H h => round n fr H h _ fun m _ _ hm hI => ⟨m, hm, hI⟩
theorem awp_if {c : Operand} {x y : Code} (t : Bool) (hc : ev E.G fr c = .bool t) (h1 : t = true → awp E N x Q fr H) (h2 : t = false → awp E N y Q fr H) : awp E N (.cond c x y) Q fr H := awp_cond hc h1 h2
theorem Gives.pure {v v' : AV} {H : Hp} (h : v = v') : Gives (fun ae H' => ae = .ret v' ∧ H' = emp) v H :=
  ⟨v, emp, Turn.drop (fun b o h => by cases h), by rw [h], rfl⟩
theorem Gives.turn {R : AEnd → Hp → Prop} {v v1 : AV} {H H1 : Hp} (ht : Turn v H v1 H1) (h : Gives R v1 H1) : Gives R v H := by
  obtain ⟨v', H', h1, h2⟩ := h
  exact ⟨v', H', ht.trans h1, h2⟩

/-- A list that grows by append: a nil slice, or an owned one. -/
def OwnL (sz : Nat) (v : AV) (rows : List (List AV)) (H : Hp) : Prop := (v = .nsl ∧ rows = []) ∨ ∃ b, v = .osl sz b rows.length ∧ H b = some (.rows sz rows)
theorem awpA_own {sz by' : Nat} {v : AV} {rows ys : List (List AV)} (hv : OwnL sz v rows H) (hb : (rows.length + ys.length) * by' ≤ 140737488355328) (hF : ∀ b, F b)
    (h : ∀ v' H', OwnL sz v' (rows ++ ys) H' → (∀ b o, H b = some o → v ≠ .osl sz b rows.length → H' b = some o) → awpL E F ds Q rest (putF fr d v') H') : awpA E F ds Q d rest fr H (some (sz, by', v, ys)) := by
  rcases hv with ⟨rfl, rfl⟩ | ⟨b, rfl, hH⟩
  · simp only [List.nil_append, List.length_nil, Nat.zero_add] at h hb
    refine ⟨hb, fun e => h _ _ (.inl ⟨rfl, e⟩) fun _ _ hb _ => hb, fun e b hbn => h _ _ (.inr ⟨b, rfl, by simp [upd]⟩) fun b' o hb' _ => ?_⟩
    have : b' ≠ b := fun c => by rw [c, hbn] at hb'; cases hb'
    simp [upd, this, hb']
  · simp only [awpA, hH]
    refine ⟨trivial, trivial, trivial, hb, hF b, fun b' hb' => ?_⟩
    refine h _ _ (.inr ⟨b', by simp, by simp [upd]⟩) fun b'' o h1 h2 => ?_
    have n1 : b'' ≠ b := fun c => h2 (by rw [c])
    have n2 : b'' ≠ b' := fun c => by
      rcases hb' with e | e
      · exact n1 (c.trans e)
      · rw [← c, h1] at e; cases e
    simp [upd, n1, n2, h1]
/-- what becomes of a value when block b is sealed -/
def frz (b sz : Nat) (l : List (List AV)) : AV → AV
  | .osl sz' b' n => if b' = b ∧ sz' = sz ∧ n = l.length then .isl sz l else .osl sz' b' n
  | v => v
theorem frz_sub (b sz : Nat) (l : List (List AV)) (v : AV) : FSub b sz l v (frz b sz l v) := by
  cases v <;> simp only [frz] <;> try exact FSub.refl _ _ _ _
  split
  · rename_i h
    obtain ⟨rfl, rfl, rfl⟩ := h
    exact FSub.osl _ _ _
  · exact FSub.refl _ _ _ _
/-- An owned block is sealed in the midst of a function. -/
theorem awp_freeze {c : Code} {b sz : Nat} {l : List (List AV)} (hb : H b = some (.rows sz l)) (h : awp E N c Q (fun t => frz b sz l (fr t)) (upd H b none)) : awp E N c Q fr H := fun γ a w ⟨g1, g2, S, hst, hf⟩ => by
  have hk : Keeps S (fun k => S k ∨ k = b) w w := ⟨fun _ _ => rfl, fun _ _ h => h, fun _ h => .inl h⟩
  have ho := (hst.obj b _ hb).1
  have hlt := ho.lt
  simp only [ORel] at ho
  obtain ⟨cs, e, _, _, hr⟩ := ho
  refine h γ a w ⟨g1, g2, _, ?_, fun t => frz_sub b sz l (fr t) _ w _ (.inr rfl) (RowsRel.mono hk l b 0 sz rfl hr) (VRel.mono hk _ _ (hf t))⟩
  refine hst.step (Ext.refl (fun _ => False) w) (fun _ h => h.elim) (fun _ h => .inl h) (fun k hk => ?_) (fun k hk => ?_) fun b' o hb' => ?_
  · rcases hk with hk | hk
    · exact hst.lt k hk
    · exact hk ▸ hlt
  · rcases hk with hk | hk
    · exact .inl hk
    · exact .inr (.inl (by rw [hk, hb]; simp))
  · simp only [upd] at hb'
    split at hb'
    · cases hb'
    · rename_i hne
      refine ⟨fun hs => ?_, .inl ⟨hb', fun h => h⟩⟩
      rcases hs with hs | hs
      · exact (hst.obj b' o hb').2.1 hs
      · exact hne hs
end
end Go.Al
