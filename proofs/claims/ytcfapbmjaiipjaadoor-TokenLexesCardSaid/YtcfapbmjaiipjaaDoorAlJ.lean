/- The little logic, tenth part: what a store and an append do. -/
import Derived.Test.YtcfapbmjaiipjaaDoorAlI
set_option linter.unusedSimpArgs false
set_option linter.unusedVariables false
namespace Go.Al

theorem splice_get {α : Type} (A vs : List α) (p : Nat) (h : p + vs.length ≤ A.length) (q : Nat) :
    (A.take p ++ vs ++ A.drop (p + vs.length))[q]? = if q < p then A[q]? else if q < p + vs.length then vs[q - p]? else A[q]? := by
  have l1 : (A.take p).length = p := by simp; omega
  rw [List.append_assoc, List.getElem?_append, l1]
  split
  · rename_i hq; rw [List.getElem?_take, if_pos hq]
  · rename_i hq
    rw [List.getElem?_append]
    split
    · rename_i h2; rw [if_pos (by omega)]
    · rename_i h2; rw [if_neg (by omega), List.getElem?_drop]; congr 1; omega

section
variable {S : Seal} {w : World}
theorem RowRel.cells {b off : Nat} {row : List AV} {cur : Array Value} {e : TypeId} {fz : Nat × Nat} (hb : w.heap[b]? = some (.cells cur e fz)) (h : RowRel S w b off row) :
    LRel S w row ((cur.toList.drop off).take row.length) := by
  obtain ⟨vs, hl, hc⟩ := h.vals
  have : (cur.toList.drop off).take row.length = vs := by
    apply List.ext_getElem?
    intro j
    rw [List.getElem?_take, ← hl.length]
    split
    · rename_i hj
      have hv := hc j _ (List.getElem?_eq_getElem hj)
      rw [cell_of_row w b (off + j) cur e fz hb] at hv
      rw [List.getElem?_drop, List.getElem?_eq_getElem hj]
      simpa using hv
    · rename_i hj
      rw [List.getElem?_eq_none (by omega)]
  rw [this]; exact hl
theorem RowRel.of_cells {b off : Nat} {row : List AV} {cur : Array Value} {e : TypeId} {fz : Nat × Nat} (hb : w.heap[b]? = some (.cells cur e fz)) {n : Nat} (h : LRel S w row ((cur.toList.drop off).take n)) :
    RowRel S w b off row :=
  RowRel.of_vals h fun j v hj => by
    rw [cell_of_row w b (off + j) cur e fz hb]
    rw [List.getElem?_take] at hj
    split at hj
    · rw [List.getElem?_drop] at hj; simpa using hj
    · cases hj
theorem RowsRel.vals : ∀ {l : List (List AV)} {b off sz : Nat}, RowsRel S w b off sz l → ∃ vs, LRel S w l.flatten vs ∧ vs.length = l.length * sz ∧ ∀ (j : Nat) v, vs[j]? = some v → w.cell? ⟨b, off + j, none⟩ = some v
  | [], b, off, sz, _ => ⟨[], by simp [LRel], by simp, by simp⟩
  | r :: rs, b, off, sz, h => by
    simp only [RowsRel] at h
    obtain ⟨h1, h2, h3⟩ := h
    obtain ⟨v1, l1, c1⟩ := h2.vals
    obtain ⟨v2, l2, n2, c2⟩ := RowsRel.vals h3
    have hn := l1.length
    refine ⟨v1 ++ v2, by rw [List.flatten_cons]; exact l1.append l2, by rw [List.length_append, n2, List.length_cons, Nat.add_mul]; omega, fun j v hj => ?_⟩
    rw [List.getElem?_append] at hj
    split at hj
    · exact c1 j v hj
    · rename_i hlt
      have := c2 _ _ hj
      rwa [show off + sz + (j - v1.length) = off + j by omega] at this
end

/-- one cell's worth -/
def one : AV → Bool
  | .undef | .agg _ | .tup _ => false
  | _ => true
theorem one_cell {S : Seal} {w : World} {x : AV} {v : Value} (h : VRel S w x v) (ho : one x = true) : v.oneCell' = true := by
  cases x <;> simp only [one] at ho <;> (try (cases ho; done)) <;> simp only [VRel] at h <;> first
    | (subst h; rfl)
    | (obtain ⟨_, _, rfl, _⟩ := h; rfl)
    | (obtain ⟨_, rfl, _⟩ := h; rfl)
theorem one_cells {S : Seal} {w : World} : ∀ {xs : List AV} {vs : List Value}, LRel S w xs vs → xs.all one = true → ∀ v ∈ vs, v.oneCell' = true
  | [], vs, h, _, v, hv => by simp only [LRel] at h; subst h; simp at hv
  | x :: xs, vs, h, ho, v, hv => by
    simp only [LRel] at h
    obtain ⟨u, us, rfl, h1, h2⟩ := h
    simp only [List.all_cons, Bool.and_eq_true] at ho
    rcases List.mem_cons.1 hv with rfl | hv
    · exact one_cell h1 ho.1
    · exact one_cells h2 ho.2 v hv

theorem Ext.setRow {M : Nat → Prop} {w : World} {b : Nat} {old cs : Array Value} {e : TypeId} {fz : Nat × Nat} (hb : w.heap[b]? = some (.cells old e fz)) (hs : cs.size = old.size) (hm : M b) : Ext M w (w.setRow b cs) := by
  refine ⟨rfl, rfl, rfl, by simp, fun k _ hn => setRow_other w b k cs (fun h => hn (h ▸ hm)), fun k sh h => ?_, fun k c e' z hz => ?_⟩
  case refine_2 =>
    right
    by_cases hk : k = b
    · subst hk
      rw [setRow_heap w k old cs e fz hb] at hz
      cases hz
      exact ⟨_, _, hb⟩
    · rw [setRow_other w b k cs hk] at hz
      exact ⟨c, e', hz⟩
  by_cases hk : k = b
  · subst hk
    simp only [World.shape?, hb] at h
    simp only [World.shape?, setRow_heap w k old cs e fz hb, hs]
    exact h
  · rw [shape_of (setRow_other w b k cs hk)]; exact h

section
variable {E : Env} {γ : Start} {S : Seal} {H : Hp} {w : World} {fr : Fr} {a : Act}
/-- Cells of an owned block are written. -/
theorem St.setRow (hst : St E γ S H w) {b sz : Nat} {l l' : List (List AV)} {cur cs : Array Value} {e : TypeId} (hH : H b = some (.rows sz l)) (hb : w.heap[b]? = some (.cells cur e (0, 0))) (hs : cs.size = cur.size)
    (hl : l'.length * sz ≤ cs.size) (hr : ∀ (i : Nat) row, l'[i]? = some row → row.length = sz ∧ LRel S w row ((cs.toList.drop (i * sz)).take sz)) :
    Keeps S S w (w.setRow b cs) ∧ St E γ S (upd H b (some (.rows sz l'))) (w.setRow b cs) := by
  have hx : Ext (fun k => k = b) w (w.setRow b cs) := Ext.setRow hb hs rfl
  have hnb : ¬ S b := (hst.obj b _ hH).2.1
  have hK : Keeps S S w (w.setRow b cs) := hst.keeps hx (fun k hk _ => hk ▸ hnb) (fun _ h => h)
  refine ⟨hK, hst.step hx (fun k hk _ => by subst hk; simp [hH]) (fun _ h => h) (fun k hk => by simp; exact hst.lt k hk) (fun k hk => .inl hk) fun b' o hb' => ?_⟩
  by_cases h : b' = b
  · subst h
    simp only [upd, if_true, Option.some.injEq] at hb'
    subst hb'
    refine ⟨hnb, .inr ⟨?_, .inl (by simp [hH])⟩⟩
    simp only [ORel]
    have hb2 := setRow_heap w b' cur cs e (0, 0) hb
    refine ⟨cs, e, hb2, hl, RowsRel.of_get fun i row hrow => ?_⟩
    obtain ⟨h1, h2⟩ := hr i row hrow
    refine ⟨h1, ?_⟩
    rw [Nat.zero_add]
    exact RowRel.of_cells hb2 (LRel.mono hK _ _ h2)
  · simp only [upd, if_neg h] at hb'
    exact ⟨(hst.obj b' o hb').2.1, .inl ⟨hb', h⟩⟩

/-- A store: the run. -/
theorem run_store_rows (hst : St E γ S H w) {t : TypeId} {ti : TI} (ht : tinfo E.P t = some ti) {sz b i j : Nat} {l : List (List AV)} {row : List AV} {x : AV} {x' : Value} {cs : List AV} (hH : H b = some (.rows sz l)) (hrow : l[i]? = some row)
    (hx : VRel S w x x') (hc : cellsOf x = some cs) (hn : cs.length = ti.size) (hj : j + cs.length ≤ row.length) (h1 : cs.all one = true) :
    ∃ w', (storeVar t ⟨b, i * sz + j, none⟩ x').run E.P w = .ok () w' ∧ Keeps S S w w' ∧ St E γ S (upd H b (some (.rows sz (l.set i (row.take j ++ cs ++ row.drop (j + cs.length)))))) w' := by
  have ho := (hst.obj b _ hH).1
  simp only [ORel] at ho
  obtain ⟨cur, e, hb, hsz, hr⟩ := ho
  obtain ⟨hrl, hri⟩ := RowsRel.get i hr hrow
  rw [Nat.zero_add] at hri
  have hv := cells_rel hx hc
  have hvl : x'.cells.toList.length = cs.length := hv.length
  have hil : i < l.length := (List.getElem?_eq_some_iff.1 hrow).1
  have hfit : (i + 1) * sz ≤ cur.size := Nat.le_trans (Nat.mul_le_mul_right _ hil) hsz
  rw [Nat.add_mul, Nat.one_mul] at hfit
  have hst2 := run_storeCells_at E.P b (i * sz + j) e x'.cells.toList 0 cur w hb (by omega) (one_cells hv h1)
  simp only [Nat.add_zero] at hst2
  refine ⟨w.setRow b (cur.toList.take (i * sz + j) ++ x'.cells.toList ++ cur.toList.drop (i * sz + j + x'.cells.toList.length)).toArray, ?_, ?_⟩
  · simp only [storeVar, Sem.run_bind, run_sizeOf ht, Result.andThen_ok]
    rw [if_neg (by simp at hvl; simp; omega)]
    exact hst2
  · refine hst.setRow hH hb (by simp at hvl ⊢; omega) (by simp at hvl ⊢; omega) fun k row' hk => ?_
    have hget := splice_get cur.toList x'.cells.toList (i * sz + j) (by simp at hvl ⊢; omega)
    rw [List.getElem?_set] at hk
    split at hk
    · rename_i hki
      subst hki
      cases hk
      have hlen : (row.take j ++ cs ++ row.drop (j + cs.length)).length = sz := by simp; omega
      refine ⟨hlen, ?_⟩
      have hold := RowRel.cells hb hri
      rw [hrl] at hold
      have e2 : (List.drop (i * sz) (cur.toList.take (i * sz + j) ++ x'.cells.toList ++ cur.toList.drop (i * sz + j + x'.cells.toList.length))).take sz =
          ((cur.toList.drop (i * sz)).take sz).take j ++ x'.cells.toList ++ ((cur.toList.drop (i * sz)).take sz).drop (j + x'.cells.toList.length) := by
        have hl0 : ((cur.toList.drop (i * sz)).take sz).length = sz := by simp; omega
        apply List.ext_getElem?
        intro q
        rw [splice_get _ _ _ (by rw [hl0]; omega), List.getElem?_take, List.getElem?_drop, hget]
        have hg2 : ∀ q, ((cur.toList.drop (i * sz)).take sz)[q]? = if q < sz then cur.toList[i * sz + q]? else none := fun q => by
          rw [List.getElem?_take, List.getElem?_drop]
        rw [hg2]
        by_cases q1 : q < sz
        · rw [if_pos q1, if_pos q1]
          by_cases q2 : q < j
          · rw [if_pos (by omega), if_pos q2]
          · rw [if_neg (by omega), if_neg q2]
            by_cases q3 : q < j + x'.cells.toList.length
            · rw [if_pos (by omega), if_pos q3]; congr 1; omega
            · rw [if_neg (by omega), if_neg q3]
        · rw [if_neg q1, if_neg q1, if_neg (by omega), if_neg (by omega)]
      rw [e2]
      exact (LRel.append (hold.take j) hv).append (by rw [hvl]; exact hold.drop _)
    · rename_i hki
      obtain ⟨g1, g2⟩ := RowsRel.get k hr hk
      refine ⟨g1, ?_⟩
      have hold := RowRel.cells hb g2
      rw [g1, Nat.zero_add] at hold
      have e2 : (List.drop (k * sz) (cur.toList.take (i * sz + j) ++ x'.cells.toList ++ cur.toList.drop (i * sz + j + x'.cells.toList.length))).take sz = (cur.toList.drop (k * sz)).take sz := by
        apply List.ext_getElem?
        intro q
        rw [List.getElem?_take, List.getElem?_take, List.getElem?_drop, List.getElem?_drop, hget]
        split
        · rename_i hq
          rcases Nat.lt_or_gt_of_ne hki with hlt | hgt
          · have : (i + 1) * sz ≤ k * sz := Nat.mul_le_mul_right _ hlt
            rw [Nat.add_mul, Nat.one_mul] at this
            rw [if_neg (by omega), if_neg (by omega)]
          · have : (k + 1) * sz ≤ i * sz := Nat.mul_le_mul_right _ hgt
            rw [Nat.add_mul, Nat.one_mul] at this
            rw [if_pos (by omega)]
        · rfl
      rw [e2]
      exact hold
end
end Go.Al
