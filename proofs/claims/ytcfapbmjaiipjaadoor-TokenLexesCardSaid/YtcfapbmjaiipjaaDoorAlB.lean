/- The little logic, second part: plain facts on rows and lists of cells; constants; what is known of a type. -/
import Derived.Test.YtcfapbmjaiipjaaDoorAlA
set_option linter.unusedSimpArgs false
set_option linter.unusedVariables false
namespace Go.Al
section
variable {S : Seal} {w : World}

theorem LRel.length : ∀ {xs : List AV} {vs : List Value}, LRel S w xs vs → vs.length = xs.length
  | [], vs, h => by simp only [LRel] at h; subst h; rfl
  | x :: xs, vs, h => by
    simp only [LRel] at h
    obtain ⟨u, us, rfl, _, h2⟩ := h
    simp [LRel.length h2]
theorem LRel.get : ∀ {xs : List AV} {vs : List Value} (i : Nat) {x : AV}, LRel S w xs vs → xs[i]? = some x → ∃ v, vs[i]? = some v ∧ VRel S w x v
  | [], _, i, x, _, hx => by simp at hx
  | y :: xs, vs, i, x, h, hx => by
    simp only [LRel] at h
    obtain ⟨u, us, rfl, h1, h2⟩ := h
    cases i with
    | zero => simp at hx; subst hx; exact ⟨u, rfl, h1⟩
    | succ i => simp at hx; obtain ⟨v, e, hv⟩ := LRel.get i h2 hx; exact ⟨v, by simpa using e, hv⟩
theorem LRel.drop : ∀ {xs : List AV} {vs : List Value} (n : Nat), LRel S w xs vs → LRel S w (xs.drop n) (vs.drop n)
  | _, _, 0, h => by simpa using h
  | [], vs, n + 1, h => by simp only [LRel] at h; subst h; simp [LRel]
  | y :: xs, vs, n + 1, h => by
    simp only [LRel] at h
    obtain ⟨u, us, rfl, _, h2⟩ := h
    simpa using LRel.drop n h2
theorem LRel.take : ∀ {xs : List AV} {vs : List Value} (n : Nat), LRel S w xs vs → LRel S w (xs.take n) (vs.take n)
  | _, _, 0, _ => by simp [LRel]
  | [], vs, n + 1, h => by simp only [LRel] at h; subst h; simp [LRel]
  | y :: xs, vs, n + 1, h => by
    simp only [LRel] at h
    obtain ⟨u, us, rfl, h1, h2⟩ := h
    simp only [List.take_succ_cons, LRel]
    exact ⟨u, us.take n, rfl, h1, LRel.take n h2⟩
theorem LRel.append : ∀ {xs ys : List AV} {vs us : List Value}, LRel S w xs vs → LRel S w ys us → LRel S w (xs ++ ys) (vs ++ us)
  | [], _, vs, _, h, h' => by simp only [LRel] at h; subst h; simpa using h'
  | x :: xs, _, vs, _, h, h' => by
    simp only [LRel] at h
    obtain ⟨u, us, rfl, h1, h2⟩ := h
    simp only [List.cons_append, LRel]
    exact ⟨u, _, rfl, h1, LRel.append h2 h'⟩
theorem LRel.set : ∀ {xs : List AV} {vs : List Value} (n : Nat) {x : AV} {v : Value}, LRel S w xs vs → VRel S w x v → LRel S w (xs.set n x) (vs.set n v)
  | [], vs, n, _, _, h, _ => by simp only [LRel] at h; subst h; simp [LRel]
  | y :: xs, vs, 0, x, v, h, hv => by
    simp only [LRel] at h
    obtain ⟨u, us, rfl, _, h2⟩ := h
    simp only [List.set_cons_zero, LRel]
    exact ⟨v, us, rfl, hv, h2⟩
  | y :: xs, vs, n + 1, x, v, h, hv => by
    simp only [LRel] at h
    obtain ⟨u, us, rfl, h1, h2⟩ := h
    simp only [List.set_cons_succ, LRel]
    exact ⟨u, _, rfl, h1, LRel.set n h2 hv⟩
/-- pointwise -/
theorem LRel.of_get : ∀ {xs : List AV} {vs : List Value}, vs.length = xs.length → (∀ (i : Nat) (x : AV) (v : Value), xs[i]? = some x → vs[i]? = some v → VRel S w x v) → LRel S w xs vs
  | [], vs, hl, _ => by cases vs with | nil => simp [LRel] | cons => simp at hl
  | x :: xs, vs, hl, h => by
    cases vs with
    | nil => simp at hl
    | cons v vs =>
      simp only [LRel]
      exact ⟨v, vs, rfl, h 0 x v rfl rfl, LRel.of_get (by simpa using hl) fun i x v hx hv => h (i + 1) x v (by simpa using hx) (by simpa using hv)⟩

theorem RowRel.vals : ∀ {row : List AV} {b off : Nat}, RowRel S w b off row → ∃ vs, LRel S w row vs ∧ ∀ j v, vs[j]? = some v → w.cell? ⟨b, off + j, none⟩ = some v
  | [], b, off, _ => ⟨[], by simp [LRel], by simp⟩
  | x :: xs, b, off, h => by
    simp only [RowRel] at h
    obtain ⟨⟨u, e, h1⟩, h2⟩ := h
    obtain ⟨vs, hl, hc⟩ := RowRel.vals h2
    refine ⟨u :: vs, by simp only [LRel]; exact ⟨u, vs, rfl, h1, hl⟩, fun j v hj => ?_⟩
    cases j with
    | zero => simp at hj; subst hj; simpa using e
    | succ j => simp at hj; have := hc j v hj; rwa [show off + 1 + j = off + (j + 1) by omega] at this
theorem RowRel.of_vals : ∀ {row : List AV} {vs : List Value} {b off : Nat}, LRel S w row vs → (∀ j v, vs[j]? = some v → w.cell? ⟨b, off + j, none⟩ = some v) → RowRel S w b off row
  | [], _, b, off, _, _ => by simp only [RowRel]
  | x :: xs, vs, b, off, h, hc => by
    simp only [LRel] at h
    obtain ⟨u, us, rfl, h1, h2⟩ := h
    simp only [RowRel]
    exact ⟨⟨u, by simpa using hc 0 u rfl, h1⟩, RowRel.of_vals h2 fun j v hj => by
      have := hc (j + 1) v (by simpa using hj); rwa [show off + (j + 1) = off + 1 + j by omega] at this⟩
theorem RowRel.get {row : List AV} {b off : Nat} (h : RowRel S w b off row) (j : Nat) {x : AV} (hx : row[j]? = some x) :
    ∃ v, w.cell? ⟨b, off + j, none⟩ = some v ∧ VRel S w x v := by
  obtain ⟨vs, hl, hc⟩ := h.vals
  obtain ⟨v, hv, hr⟩ := hl.get j hx
  exact ⟨v, hc j v hv, hr⟩
theorem RowsRel.get : ∀ {l : List (List AV)} {b off sz : Nat} (i : Nat) {row : List AV}, RowsRel S w b off sz l → l[i]? = some row → row.length = sz ∧ RowRel S w b (off + i * sz) row
  | [], _, _, _, i, _, _, hr => by simp at hr
  | r :: rs, b, off, sz, i, row, h, hr => by
    simp only [RowsRel] at h
    cases i with
    | zero => simp at hr; subst hr; exact ⟨h.1, by simpa using h.2.1⟩
    | succ i =>
      simp at hr
      obtain ⟨h1, h2⟩ := RowsRel.get i h.2.2 hr
      exact ⟨h1, by rwa [show off + sz + i * sz = off + (i + 1) * sz by rw [Nat.add_mul]; omega] at h2⟩
theorem RowsRel.of_get : ∀ {l : List (List AV)} {b off sz : Nat}, (∀ i row, l[i]? = some row → row.length = sz ∧ RowRel S w b (off + i * sz) row) → RowsRel S w b off sz l
  | [], _, _, _, _ => by simp only [RowsRel]
  | r :: rs, b, off, sz, h => by
    simp only [RowsRel]
    refine ⟨(h 0 r rfl).1, by simpa using (h 0 r rfl).2, RowsRel.of_get fun i row hr => ?_⟩
    have := h (i + 1) row (by simpa using hr)
    rwa [show off + (i + 1) * sz = off + sz + i * sz by rw [Nat.add_mul]; omega] at this
theorem RowsRel.drop {l : List (List AV)} {b off sz : Nat} (h : RowsRel S w b off sz l) (n : Nat) : RowsRel S w b (off + n * sz) sz (l.drop n) :=
  RowsRel.of_get fun i row hr => by
    have := RowsRel.get (n + i) h (by simpa [List.getElem?_drop] using hr)
    rwa [show off + (n + i) * sz = off + n * sz + i * sz by rw [Nat.add_mul]; omega] at this
theorem RowsRel.take {l : List (List AV)} {b off sz : Nat} (h : RowsRel S w b off sz l) (n : Nat) : RowsRel S w b off sz (l.take n) :=
  RowsRel.of_get fun i row hr => RowsRel.get i h (by rw [List.getElem?_take] at hr; split at hr <;> simp_all)
end

/-! ### constants -/
def av1 : Value → AV
  | .bool b => .bool b
  | .int k n => .int k n
  | .string s => .str s.data.toList
  | .slice none 0 0 => .nsl
  | .pointer none => .npt
  | .map none => .nmp
  | .nilFunc => .nfn
  | .nilIface => .nif
  | _ => .undef
/-- what a constant of the program, or a type's zero, stands for -/
def avOf : Value → AV
  | .agg cs => .agg (cs.toList.map av1)
  | v => av1 v
theorem VRel_av1 (S : Seal) (w : World) (v : Value) : VRel S w (av1 v) v := by
  unfold av1
  split <;> simp only [VRel]
theorem LRel_av1 (S : Seal) (w : World) : ∀ vs : List Value, LRel S w (vs.map av1) vs
  | [] => by simp only [List.map_nil, LRel]
  | v :: vs => by
    simp only [List.map_cons, LRel]
    exact ⟨v, vs, rfl, VRel_av1 S w v, LRel_av1 S w vs⟩
theorem VRel_avOf (S : Seal) (w : World) (v : Value) : VRel S w (avOf v) v := by
  unfold avOf
  split
  · simp only [VRel]
    exact ⟨_, rfl, LRel_av1 S w _⟩
  · exact VRel_av1 S w _

/-! ### types -/
inductive TK where
  | int (k : IntKind)
  | bool
  | str
  | slice (e : TypeId)
  | ptr (e : TypeId)
  | array (n : Nat) (e : TypeId)
  | map (k e : TypeId)
  | strct (fs : List (TypeId × Nat))
  | iface
  | func
  | other
def TK.agg : TK → Bool
  | .array _ _ | .strct _ => true
  | _ => false
def tkOf : TypeDesc → TK
  | .int k => .int k
  | .bool => .bool
  | .string => .str
  | .slice e => .slice e
  | .pointer e => .ptr e
  | .array n e => .array n e
  | .map k e => .map k e
  | .struct fs => .strct (fs.toList.map fun f => (f.type, f.offset))
  | .interface _ => .iface
  | .func _ _ _ => .func
  | _ => .other
structure TI where
  k : TK
  size : Nat
  bytes : Nat
  zero : AV
/-- what the logic knows of a type -/
def tinfo (P : Program) (t : TypeId) : Option TI :=
  match P.underlying t, P.info? t with
  | some d, some i => i.zero.map fun z => ⟨tkOf d, i.size, i.bytes, avOf z⟩
  | _, _ => none
theorem tinfo_spec {P : Program} {t : TypeId} {ti : TI} (h : tinfo P t = some ti) :
    ∃ d i z, P.underlying t = some d ∧ P.info? t = some i ∧ i.zero = some z ∧ ti = ⟨tkOf d, i.size, i.bytes, avOf z⟩ := by
  unfold tinfo at h
  split at h
  · rename_i d i h1 h2
    rw [Option.map_eq_some_iff] at h
    obtain ⟨z, hz, rfl⟩ := h
    exact ⟨d, i, z, h1, h2, hz, rfl⟩
  · cases h
section
variable {P : Program} {t : TypeId} {ti : TI}
theorem run_isAgg (h : tinfo P t = some ti) (w : World) : (isAgg t).run P w = .ok ti.k.agg w := by
  obtain ⟨d, i, z, h1, h2, hz, rfl⟩ := tinfo_spec h
  simp only [isAgg, Sem.run_bind, run_underlying h1, Result.andThen_ok]
  cases d <;> simp [tkOf, TK.agg]
theorem run_sizeOf (h : tinfo P t = some ti) (w : World) : (sizeOf t).run P w = .ok ti.size w := by
  obtain ⟨d, i, z, h1, h2, hz, rfl⟩ := tinfo_spec h
  simp [sizeOf, typeInfo, h2]
theorem run_zeroValue (h : tinfo P t = some ti) (w : World) : ∃ z, (zeroValue t).run P w = .ok z w ∧ ti.zero = avOf z := by
  obtain ⟨d, i, z, h1, h2, hz, rfl⟩ := tinfo_spec h
  exact ⟨z, by simp [zeroValue, typeInfo, h2, hz], rfl⟩
end
end Go.Al
