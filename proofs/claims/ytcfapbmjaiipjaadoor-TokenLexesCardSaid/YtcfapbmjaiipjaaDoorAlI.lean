/- The little logic, ninth part: what the operations that make memory do. -/
import Derived.Test.YtcfapbmjaiipjaaDoorAlH
set_option linter.unusedSimpArgs false
set_option linter.unusedVariables false
namespace Go.Al

theorem chunk {α : Type} {sz : Nat} : ∀ (ls : List (List α)) (i : Nat) (c : List α), (∀ x ∈ ls, x.length = sz) → ls[i]? = some c → (ls.flatten.drop (i * sz)).take sz = c
  | [], i, c, _, h => by simp at h
  | x :: ls, 0, c, hl, h => by
    simp at h; subst h
    have := hl x (by simp)
    simp [← this]
  | x :: ls, i + 1, c, hl, h => by
    simp at h
    have hx := hl x (by simp)
    have ih := chunk ls i c (fun y hy => hl y (by simp [hy])) h
    rw [List.flatten_cons, Nat.add_mul, Nat.one_mul, List.drop_append, hx]
    simp only [Nat.add_sub_cancel]
    rw [List.drop_eq_nil_of_le (by omega), List.nil_append]
    exact ih
theorem flatten_len {α : Type} {sz : Nat} : ∀ (ls : List (List α)), (∀ x ∈ ls, x.length = sz) → ls.flatten.length = ls.length * sz
  | [], _ => by simp
  | x :: ls, h => by
    rw [List.flatten_cons, List.length_append, h x (by simp), flatten_len ls (fun y hy => h y (by simp [hy])), List.length_cons, Nat.add_mul, Nat.one_mul, Nat.add_comm]

theorem fill_slice (sz : Nat) : ∀ (qs : List (Nat × Value)) (k : Nat) (cur : Array Value), (∀ (i : Nat) q, qs[i]? = some q → q.1 = k + i ∧ q.2.cells.size = sz) → (k + qs.length) * sz ≤ cur.size →
    ∃ out, Instr.fill (fun i => some (i * sz, sz)) cur qs = some out ∧ out.size = cur.size ∧ out.toList.take ((k + qs.length) * sz) = cur.toList.take (k * sz) ++ (qs.map (·.2.cells.toList)).flatten
  | [], k, cur, _, _ => ⟨cur, by simp [Instr.fill], rfl, by simp⟩
  | (i, v) :: qs, k, cur, h, hs => by
    obtain ⟨e1, e2⟩ := h 0 _ rfl
    simp only [Nat.add_zero] at e1 e2
    subst e1
    simp only [List.length_cons] at hs
    have hb : (i + 1) * sz ≤ cur.size := Nat.le_trans (Nat.mul_le_mul_right _ (by omega)) hs
    rw [Nat.add_mul, Nat.one_mul] at hb
    have hfold := foldl_set (i * sz) v.cells.toList 0 cur (by simp [e2]; omega)
    simp only [Nat.add_zero, Array.length_toList, e2] at hfold
    have e3 : (v.cells.zipIdx.foldl (fun cs (c, j) => cs.setIfInBounds (i * sz + j) c) cur) = (v.cells.toList.zipIdx.foldl (fun cs (c, j) => cs.setIfInBounds (i * sz + j) c) cur) := by
      rw [← Array.foldl_toList]
      simp
    generalize hnew : (v.cells.zipIdx.foldl (fun cs (c, j) => cs.setIfInBounds (i * sz + j) c) cur) = new at *
    rw [← e3] at hfold
    have hnl : new.size = cur.size := by
      have := congrArg List.length hfold
      simp only [Array.length_toList, List.length_append, List.length_take, List.length_drop, e2] at this
      omega
    obtain ⟨out, h1, h2, h3⟩ := fill_slice sz qs (i + 1) new (fun j q hq => by
      have := h (j + 1) q (by simpa using hq)
      exact ⟨by omega, this.2⟩) (by rw [hnl, show i + 1 + qs.length = i + (qs.length + 1) by omega]; exact hs)
    refine ⟨out, ?_, h2.trans hnl, ?_⟩
    · simp only [Instr.fill]
      rw [if_neg (by simp; omega), hnew]
      exact h1
    · rw [List.length_cons, show i + (qs.length + 1) = i + 1 + qs.length by omega, h3, hfold, Nat.add_mul, Nat.one_mul]
      rw [List.take_append, List.take_append]
      simp only [List.map_cons, List.flatten_cons]
      have l1 : (cur.toList.take (i * sz)).length = i * sz := by simp; omega
      have l2 : v.cells.toList.length = sz := by simpa using e2
      simp [l1, l2]
      rw [show List.take sz v.cells.toList = v.cells.toList from List.take_of_length_le (by omega), List.take_of_length_le (by omega)]

/-- the rows of a slice literal, whose parts stand in their order -/
def aparts (E : Env) (fr : Fr) (size : Nat) : Nat → List (Nat × Operand) → Option (List (List AV))
  | _, [] => some []
  | k, (i, x) :: r => if i = k then (cellsOf (ev E.G fr x)).bind fun cs => if cs.length = size then (aparts E fr size (k + 1) r).map (cs :: ·) else none else none

section
variable {E : Env} {γ : Start} {S : Seal} {H : Hp} {w : World} {fr : Fr} {a : Act}
theorem aparts_spec (hst : St E γ S H w) (hf : FRel S w fr a) {size : Nat} : ∀ (ps : List (Nat × Operand)) (k : Nat) (rows : List (List AV)), aparts E fr size k ps = some rows →
    rows.length = ps.length ∧ (∀ (i : Nat) p, ps[i]? = some p → p.1 = k + i ∧ ((a.eval p.2).cells.size = size)) ∧
    (∀ (i : Nat) row, rows[i]? = some row → row.length = size ∧ ∃ p, ps[i]? = some p ∧ LRel S w row (a.eval p.2).cells.toList)
  | [], k, rows, h => by simp [aparts] at h; subst h; simp
  | (j, x) :: ps, k, rows, h => by
    simp only [aparts, Option.ite_none_right_eq_some, Option.bind_eq_some_iff, Option.map_eq_some_iff] at h
    obtain ⟨rfl, cs, hc, hl, r, hr, rfl⟩ := h
    obtain ⟨h1, h2, h3⟩ := aparts_spec hst hf ps (j + 1) r hr
    have hv := cells_rel (ev_rel hst hf x) hc
    refine ⟨by simp [h1], fun i p hp => ?_, fun i row hrow => ?_⟩
    · cases i with
      | zero => simp at hp; subst hp; refine ⟨by simp, ?_⟩; have h5 := hv.length; simp at h5; show (a.eval x).cells.size = size; omega
      | succ i => simp at hp; have := h2 i p hp; exact ⟨by omega, this.2⟩
    · cases i with
      | zero => simp at hrow; subst hrow; exact ⟨hl, _, rfl, hv⟩
      | succ i => simp at hrow; obtain ⟨e1, p, e2, e3⟩ := h3 i row hrow; exact ⟨e1, p, by simpa using e2, e3⟩

/-- A slice literal: the run. -/
theorem run_lit (hst : St E γ S H w) (hf : FRel S w fr a) {t e : TypeId} {s1 b1 : Nat} {z1 : AV} {te : TI} {len : Nat} {parts : Array (Nat × Operand)} {rows : List (List AV)}
    (ht : tinfo E.P t = some ⟨.slice e, s1, b1, z1⟩) (hte : tinfo E.P e = some te) (h24 : len * te.size ≤ 16777216) (hr : aparts E fr te.size 0 parts.toList = some rows) (hl : rows.length = len) :
    ∃ cs : Array Value, (Instr.buildSlice t len (parts.map fun (i, x) => (i, a.eval x))).run E.P w = .ok (.slice (some ⟨w.heap.size, 0, none⟩) len len) (w.alloc (.cells cs e)) ∧ cs.size = len * te.size ∧
      ∀ S', Keeps S S' w (w.alloc (.cells cs e)) → RowsRel S' (w.alloc (.cells cs e)) w.heap.size 0 te.size rows := by
  obtain ⟨h1, h2, h3⟩ := aparts_spec hst hf _ _ _ hr
  obtain ⟨z, hz, _⟩ := run_zeroValue hte w
  have hu := u_slice ht
  -- the cells that are filled
  have key : ∀ zero : Array Value, ∃ cs : Array Value, Instr.fill (fun i => some (i * te.size, te.size)) ((Array.range (len * te.size)).map (zero[· % zero.size]!)) (parts.map fun (i, x) => (i, a.eval x)).toList = some cs ∧
      cs.size = len * te.size ∧ cs.toList.take (len * te.size) = (parts.toList.map fun p => (a.eval p.2).cells.toList).flatten := fun zero => by
    obtain ⟨out, o1, o2, o3⟩ := fill_slice te.size (parts.map fun (i, x) => (i, a.eval x)).toList 0 ((Array.range (len * te.size)).map (zero[· % zero.size]!))
      (fun i q hq => by
        simp only [Array.toList_map, List.getElem?_map, Option.map_eq_some_iff] at hq
        obtain ⟨p, hp, rfl⟩ := hq
        obtain ⟨e1, e2⟩ := h2 i p hp
        exact ⟨e1, e2⟩) (by simp [← h1, hl])
    refine ⟨out, o1, by rw [o2]; simp, ?_⟩
    have : 0 + (parts.map fun (i, x) => (i, a.eval x)).toList.length = len := by simp [← hl, h1]
    rw [this] at o3
    rw [o3]
    simp [List.map_map, Function.comp_def]
  have rel : ∀ cs : Array Value, cs.size = len * te.size → cs.toList.take (len * te.size) = (parts.toList.map fun p => (a.eval p.2).cells.toList).flatten →
      ∀ S', Keeps S S' w (w.alloc (.cells cs e)) → RowsRel S' (w.alloc (.cells cs e)) w.heap.size 0 te.size rows := fun cs c1 c2 S' hK => by
    refine RowsRel.fresh hK (vs := (parts.toList.map fun p => (a.eval p.2).cells.toList).flatten) (by rw [hl]; exact c2) fun i row hrow => ?_
    obtain ⟨e1, p, e2, e3⟩ := h3 i row hrow
    refine ⟨e1, ?_⟩
    rw [chunk _ i (a.eval p.2).cells.toList (fun x hx => ?_) (by simp [e2])]
    · exact e3
    · simp only [List.mem_map] at hx
      obtain ⟨p', hp', rfl⟩ := hx
      obtain ⟨j, hj⟩ := List.getElem?_of_mem hp'
      simpa using (h2 j p' hj).2
  have hn : ¬ (len * te.size > 2 ^ 24) := by simp; omega
  by_cases h0 : len * te.size = 0
  · obtain ⟨cs, k1, k2, k3⟩ := key #[]
    refine ⟨cs, ?_, k2, rel cs k2 k3⟩
    simp only [Instr.buildSlice, Sem.run_bind, run_underlying hu, Result.andThen_ok, run_sizeOf hte, if_neg hn]
    rw [if_pos h0]
    simp only [Sem.run_bind, Sem.run_pure, Result.andThen_ok, k1, newRow, run_newObj]
    rfl
  · obtain ⟨cs, k1, k2, k3⟩ := key z.cells
    refine ⟨cs, ?_, k2, rel cs k2 k3⟩
    simp only [Instr.buildSlice, Sem.run_bind, run_underlying hu, Result.andThen_ok, run_sizeOf hte, if_neg hn]
    rw [if_neg h0]
    simp only [Sem.run_bind, hz, Sem.run_pure, Result.andThen_ok, k1, newRow, run_newObj]
    rfl
end
end Go.Al
