/- Chapter 14: strings.Builder: an append of a text to bytes that are owned, and what else stays as it was. -/
import Derived.Lib.AppendStr
import Derived.Lib.Builder
set_option linter.unusedSimpArgs false
set_option linter.unusedVariables false
set_option maxRecDepth 10000
namespace Go.Al
open Go.Lib
theorem shape_setRow (w : World) (g : Nat) (cur l : Array Value) (e : TypeId) (hg : w.heap[g]? = some (.cells cur e (0, 0))) (hl : l.size = cur.size) : ∀ k sh, w.shape? k = some sh → (w.setRow g l).shape? k = some sh := by
  intro k sh hs
  by_cases h : k = g
  · subst h
    have h2 := setRow_heap w k cur l e _ hg
    simp only [World.shape?, hg] at hs
    simp only [World.shape?, h2, hl]
    exact hs
  · have h2 := setRow_other w g k l h
    simp only [World.shape?, h2] at *
    exact hs
theorem append_text {P : Program} (w : World) (t u ty e : TypeId) (i : TypeInfo) (ht : P.underlying t = some (.slice e)) (hu : P.underlying u = some .string) (hi : P.info? e = some i) (hz : i.zero = some (.int .u8 0))
    (hsize : i.size = 1) (hby : i.bytes = 1) (v : Value) (n : Nat) (xs : List Value) (hown : w.ownsRow 0 e 1 v n xs) (s : ByteArray) (hb : n + s.size ≤ 140737488355328) :
    ∃ v' w', (Builtin.append_ #[t, u] ty #[v, .string s]).run P w = .ok v' w' ∧ w'.ownsRow 0 e 1 v' (n + s.size) (xs ++ strCells s) ∧ w.grownBy w' v.ownBlock ∧
      (∀ k sh, w.shape? k = some sh → w'.shape? k = some sh) ∧ (∀ g, v'.ownBlock = some g → v.ownBlock = some g ∨ w.heap.size ≤ g) ∧ (v' = .slice none 0 0 ↔ v = .slice none 0 0 ∧ s.size = 0) := by
  have h63 : n + s.size ≤ maxLen := by unfold maxLen; omega
  have grow : ∀ w', w.grownBy w' none → ∀ k sh, w.shape? k = some sh → w'.shape? k = some sh := fun w' hg k sh hs => by
    have hk : k < w.heap.size := by
      unfold World.shape? at hs
      split at hs
      · rename_i h; exact (Array.getElem?_eq_some_iff.1 h).1
      · cases hs
    have := hg.block k hk (by simp)
    simp only [World.shape?, this] at *
    exact hs
  rcases hown.2 with ⟨rfl, rfl⟩ | ⟨g, cap, cur, rfl, hbg, hg, hnc, hcm, hcs, htake⟩
  · obtain ⟨v', w', h1, h2, h3, h4⟩ := run_append_own_string (P := P) w w.heap.size t u ty e i ht hu hi hz hsize hby _ 0 xs ⟨hown.1, .inl ⟨rfl, rfl⟩⟩ s h63 hb (Nat.le_refl _)
    refine ⟨v', w', h1, ⟨h2.1, ?_⟩, h3, grow w' h3, fun g hg => .inr ?_, h4⟩
    · rcases h2.2 with h | ⟨g, cap, cur, q1, _, q⟩
      · exact .inl h
      · exact .inr ⟨g, cap, cur, q1, Nat.zero_le _, q⟩
    · exact (h2.lt g hg).1
  · have hxl : xs.length = n := by simpa using hown.1
    have hlen : (xs ++ strCells s).length = (n + s.size) * 1 := by rw [List.length_append, hxl, strCells_length, Nat.mul_one]
    have hcs' : cur.size = cap := by simpa using hcs
    by_cases hroom : n + s.size ≤ cap
    · have hr := run_append_room_string (P := P) w t u ty e i ht hu hi hsize g n cap cur hg s hroom (by omega)
      have hls : (cur.toList.take n ++ strCells s ++ cur.toList.drop (n + s.size)).toArray.size = cur.size := by
        simp only [List.size_toArray, List.length_append, List.length_take, List.length_drop, Array.length_toList, strCells_length]
        omega
      refine ⟨_, _, hr, ⟨hlen, .inr ⟨g, cap, _, rfl, hbg, setRow_heap w g cur _ e _ hg, hroom, hcm, by rw [hls]; exact hcs, ?_⟩⟩, ⟨rfl, rfl, rfl, by simp, fun k _ hk => setRow_other w g k _ (fun e => hk (by simp [Value.ownBlock, e]))⟩, shape_setRow w g cur _ e hg hls, fun _ h => .inl h, by simp⟩
      have ht' : cur.toList.take n = xs := by simpa using htake
      rw [ht', ← hlen]
      exact List.take_left
    · have hr := run_append_grow_string (P := P) w t u ty e i (.int .u8 0) ht hu hi hz ⟨g, 0, none⟩ n cap xs (by rw [hsize]; simpa using hxl) (hown.cells (g := g) rfl) s (by omega) (by omega) (by rw [hby]; exact growslice_fits (by omega) (by omega))
      have hge := grownCap_ge w (n + s.size) cap e
      have hg0 : w.grownBy (w.drew.alloc (.cells (xs.toArray ++ (strCells s).toArray ++ Builtin.zeroCells (Value.int .u8 0).cells (grownCap w (n + s.size) cap e - (n + s.size))) e)) none := ⟨rfl, rfl, rfl, by simp, fun k hk _ => heap_alloc_old w.drew _ k hk⟩
      refine ⟨_, _, hr, ⟨hlen, .inr ⟨w.heap.size, _, _, rfl, Nat.zero_le _, heap_alloc_new w.drew _, hge, grownCap_le_maxLen w (n + s.size) cap e h63, ?_, ?_⟩⟩, ⟨rfl, rfl, rfl, by simp, fun k hk _ => heap_alloc_old w.drew _ k hk⟩, grow _ hg0, fun g' h => .inr ?_, by simp⟩
      · have hz1 : (Value.int IntKind.u8 0).cells.size = 1 := rfl
        simp only [Array.size_append, List.size_toArray, size_zeroCells, hz1, hxl, strCells_length]
        omega
      · simp only [Array.toList_append, List.append_assoc]
        rw [← List.append_assoc, ← hlen]
        exact List.take_left
      · simp only [Value.ownBlock, Option.some.injEq] at h
        omega
end Go.Al
