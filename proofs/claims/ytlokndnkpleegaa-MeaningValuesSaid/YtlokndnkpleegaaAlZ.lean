/- The little logic: what is owned within what is owned: sealed, weakened. -/
import Derived.Test.YtlokndnkpleegaaAlY
set_option linter.unusedSimpArgs false
set_option linter.unusedVariables false
set_option maxRecDepth 10000
namespace Go.Al
section
variable {S S' : Seal} {w : World}
theorem RowRel.sub : ∀ {row row' : List AV} {b off : Nat}, RowRel S w b off row → row'.length = row.length → (∀ (j : Nat) x x' u, row[j]? = some x → row'[j]? = some x' → VRel S w x u → VRel S' w x' u) → RowRel S' w b off row'
  | [], [], b, off, _, _, _ => by simp only [RowRel]
  | x :: row, y :: row', b, off, h, hl, hs => by
    simp only [RowRel] at *
    obtain ⟨⟨u, h1, h2⟩, h3⟩ := h
    exact ⟨⟨u, h1, hs 0 x y u rfl rfl h2⟩, RowRel.sub h3 (by simpa using hl) fun j a c v ha hc => hs (j + 1) a c v (by simpa using ha) (by simpa using hc)⟩
  | [], _ :: _, _, _, _, hl, _ => by simp at hl
  | _ :: _, [], _, _, _, hl, _ => by simp at hl
theorem RowsRel.sub {sz : Nat} : ∀ {l l' : List (List AV)} {b off : Nat}, RowsRel S w b off sz l → l'.length = l.length → (∀ (i : Nat) r r', l[i]? = some r → l'[i]? = some r' → r'.length = r.length ∧ ∀ (j : Nat) x x' u, r[j]? = some x → r'[j]? = some x' → VRel S w x u → VRel S' w x' u) → RowsRel S' w b off sz l'
  | [], [], b, off, _, _, _ => by simp only [RowsRel]
  | r :: l, r' :: l', b, off, h, hl, hs => by
    simp only [RowsRel] at *
    obtain ⟨h1, h2, h3⟩ := h
    obtain ⟨g1, g2⟩ := hs 0 r r' rfl rfl
    exact ⟨by omega, RowRel.sub h2 g1 g2, RowsRel.sub h3 (by simpa using hl) fun i a c ha hc => hs (i + 1) a c (by simpa using ha) (by simpa using hc)⟩
  | [], _ :: _, _, _, _, hl, _ => by simp at hl
  | _ :: _, [], _, _, _, hl, _ => by simp at hl
end
def frzO (b sz : Nat) (l : List (List AV)) : AObj → AObj
  | .rows s r => .rows s (r.map fun x => x.map (frz b sz l))
  | .amap es => .amap es
section
variable {E : Env} {N : Nat} {Q : APost} {c : Code} {fr : Fr} {H : Hp}
/-- An owned block is sealed, wherever it is named. -/
theorem awp_freezeAll {b sz : Nat} {l : List (List AV)} (hb : H b = some (.rows sz l)) (h : awp E N c Q (fun t => frz b sz l (fr t)) (fun x => if x = b then none else (H x).map (frzO b sz l))) : awp E N c Q fr H := fun γ a w ⟨g1, g2, S, hst, hf⟩ => by
  have hk : Keeps S (fun k => S k ∨ k = b) w w := ⟨fun _ _ => rfl, fun _ _ h => h, fun _ h => .inl h⟩
  have ho := (hst.obj b _ hb).1
  have hlt := ho.lt
  simp only [ORel] at ho
  obtain ⟨cs, e, _, _, hr⟩ := ho
  have hr' := RowsRel.mono hk l b 0 sz rfl hr
  have hv : ∀ x u, VRel S w x u → VRel (fun k => S k ∨ k = b) w (frz b sz l x) u := fun x u hx => frz_sub b sz l x _ w _ (.inr rfl) hr' (VRel.mono hk _ _ hx)
  refine h γ a w ⟨g1, g2, _, ?_, fun t => hv _ _ (hf t)⟩
  refine hst.step (Ext.refl (fun _ => False) w) (fun _ h => h.elim) (fun _ h => .inl h) (fun k hk => ?_) (fun k hk => ?_) fun b' o hb' => ?_
  · rcases hk with hk | hk
    · exact hst.lt k hk
    · exact hk ▸ hlt
  · rcases hk with hk | hk
    · exact .inl hk
    · exact .inr (.inl (by rw [hk, hb]; simp))
  · split at hb'
    · cases hb'
    · rename_i hne
      rw [Option.map_eq_some_iff] at hb'
      obtain ⟨o0, ho0, rfl⟩ := hb'
      have hobj := hst.obj b' o0 ho0
      refine ⟨fun hs => ?_, .inr ⟨?_, .inl (by rw [ho0]; simp)⟩⟩
      · rcases hs with hs | hs
        · exact hobj.2.1 hs
        · exact hne hs
      · cases o0 with
        | rows s r =>
          have h1 := hobj.1
          simp only [ORel, frzO] at *
          obtain ⟨cs', e', h2, h3, h4⟩ := h1
          refine ⟨cs', e', h2, by rw [List.length_map]; exact h3, RowsRel.sub h4 (by simp) fun i x x' hx hx' => ?_⟩
          rw [List.getElem?_map, hx] at hx'
          cases hx'
          refine ⟨by simp, fun j y y' u hy hy' hyu => ?_⟩
          rw [List.getElem?_map, hy] at hy'
          cases hy'
          exact hv _ _ hyu
        | amap es =>
          have h1 := hobj.1
          simp only [ORel, frzO] at *
          obtain ⟨mes, clock, h2, h3⟩ := h1
          exact ⟨mes, clock, h2, EsRel.mono hk es _ h3⟩
/-- Of a block's rows less is known. -/
theorem awp_weakRows {b sz : Nat} {l l' : List (List AV)} (hb : H b = some (.rows sz l)) (hl : l'.length = l.length) (hs : ∀ (i : Nat) r r', l[i]? = some r → l'[i]? = some r' → r'.length = r.length ∧ ∀ (j : Nat) x x', r[j]? = some x → r'[j]? = some x' → Sub x x')
    (h : awp E N c Q fr (upd H b (some (.rows sz l')))) : awp E N c Q fr H := fun γ a w ⟨g1, g2, S, hst, hf⟩ => by
  refine h γ a w ⟨g1, g2, S, ?_, hf⟩
  refine hst.step (Ext.refl (fun _ => False) w) (fun _ h => h.elim) (fun _ h => h) hst.lt (fun k hk => .inl hk) fun b' o hb' => ?_
  by_cases e : b' = b
  · subst e
    rw [upd_same] at hb'
    cases hb'
    have hobj := hst.obj b' _ hb
    refine ⟨hobj.2.1, .inr ⟨?_, .inl (by rw [hb]; simp)⟩⟩
    have h1 := hobj.1
    simp only [ORel] at *
    obtain ⟨cs', e', h2, h3, h4⟩ := h1
    refine ⟨cs', e', h2, by rw [hl]; exact h3, RowsRel.sub h4 hl fun i r r' hr hr' => ?_⟩
    obtain ⟨q1, q2⟩ := hs i r r' hr hr'
    exact ⟨q1, fun j x x' u hx hx' hxu => q2 j x x' hx hx' S w u hxu⟩
  · rw [upd_ne _ _ e] at hb'
    exact ⟨(hst.obj b' o hb').2.1, .inl ⟨hb', fun h => h⟩⟩
end
end Go.Al
