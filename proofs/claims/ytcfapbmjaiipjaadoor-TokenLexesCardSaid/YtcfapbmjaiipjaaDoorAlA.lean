/- A little logic over the model, of this repository's own: abstract values, how a value of the model stands for one, and what of it a step of the world leaves alone. It speaks of no program. -/
import Derived.WalkKit
import Derived.ProofKit
set_option linter.unusedSimpArgs false
set_option linter.unusedVariables false
namespace Go.Al

/-- An abstract value. isl: a slice whose cells nobody writes any more, row by row; osl: a slice that owns its block, from the block's first cell on; ptr: a pointer into an owned block of rows (row i, cell j; sz cells a row); ipt: a pointer into cells that nobody writes any more. -/
inductive AV where
  | undef
  | bool (b : Bool)
  | int (k : IntKind) (n : Int)
  | str (s : List UInt8)
  | agg (cs : List AV)
  | isl (sz : Nat) (l : List (List AV))
  | nsl
  | osl (sz b len : Nat)
  | ptr (sz b i j : Nat)
  | ipt (row : List AV) (j : Nat)
  | npt
  | mp (b : Nat)
  | nmp
  | fn (f : Fn) (first captured : List AV)
  | nfn
  | ifc (t : TypeId) (v : AV)
  | nif
  | tup (vs : List AV)

/-- the sealed blocks -/
abbrev Seal := Nat → Prop

mutual
/-- In world w, where the blocks S are sealed, the value stands for the abstract value. -/
def VRel (S : Seal) (w : World) : AV → Value → Prop
  | .undef, _ => True
  | .bool b, v => v = .bool b
  | .int k n, v => v = .int k n
  | .str s, v => v = .string ⟨s.toArray⟩
  | .agg cs, v => ∃ vs : List Value, v = .agg vs.toArray ∧ LRel S w cs vs
  | .isl sz l, v => ∃ oa cap, v = .slice oa l.length cap ∧ l.length ≤ cap ∧ cap ≤ maxLen ∧
      (l = [] ∨ ∃ b off, oa = some ⟨b, off, none⟩ ∧ S b ∧ RowsRel S w b off sz l)
  | .nsl, v => v = .slice none 0 0
  | .osl sz b len, v => ∃ cap e, v = .slice (some ⟨b, 0, none⟩) len cap ∧ w.shape? b = some (e, cap * sz) ∧ len ≤ cap ∧ cap ≤ maxLen
  | .ptr sz b i j, v => v = .pointer (some ⟨b, i * sz + j, none⟩)
  | .ipt row j, v => ∃ b off, v = .pointer (some ⟨b, off + j, none⟩) ∧ S b ∧ RowRel S w b off row
  | .npt, v => v = .pointer none
  | .mp b, v => v = .map (some b)
  | .nmp, v => v = .map none
  | .fn f first captured, v => ∃ vs us : List Value, v = .func f vs.toArray us.toArray ∧ LRel S w first vs ∧ LRel S w captured us
  | .nfn, v => v = .nilFunc
  | .ifc t x, v => ∃ u, v = .iface t u ∧ VRel S w x u
  | .nif, v => v = .nilIface
  | .tup xs, v => ∃ vs : List Value, v = .tuple vs.toArray ∧ LRel S w xs vs
def LRel (S : Seal) (w : World) : List AV → List Value → Prop
  | [], vs => vs = []
  | x :: xs, vs => ∃ u us, vs = u :: us ∧ VRel S w x u ∧ LRel S w xs us
def RowRel (S : Seal) (w : World) (b : Nat) : Nat → List AV → Prop
  | _, [] => True
  | off, x :: xs => (∃ u, w.cell? ⟨b, off, none⟩ = some u ∧ VRel S w x u) ∧ RowRel S w b (off + 1) xs
def RowsRel (S : Seal) (w : World) (b : Nat) : Nat → Nat → List (List AV) → Prop
  | _, _, [] => True
  | off, sz, r :: rs => r.length = sz ∧ RowRel S w b off r ∧ RowsRel S w b (off + sz) sz rs
end


/-- What a step of the world keeps: the streams; every block but those of M; every shape. -/
structure Ext (M : Nat → Prop) (w w' : World) : Prop where
  os : w'.os = w.os
  tape : w'.tape = w.tape
  output : w'.output = w.output
  size : w.heap.size ≤ w'.heap.size
  keep : ∀ k, k < w.heap.size → ¬ M k → w'.heap[k]? = w.heap[k]?
  shp : ∀ k sh, w.shape? k = some sh → w'.shape? k = some sh
  fz : ∀ (k : Nat) (c : Array Value) (e : TypeId) (z : Nat × Nat), w'.heap[k]? = some (Obj.cells c e z) → z = (0, 0) ∨ ∃ c0 e0, w.heap[k]? = some (Obj.cells c0 e0 z)

/-- an object of which no part is frozen -/
def Unfz (o : Obj) : Prop := (match o with | .cells _ _ z => z | _ => (0, 0)) = (0, 0)
theorem Ext.refl (M : Nat → Prop) (w : World) : Ext M w w := ⟨rfl, rfl, rfl, Nat.le_refl _, fun _ _ _ => rfl, fun _ _ h => h, fun _ c e _ h => .inr ⟨c, e, h⟩⟩
theorem Ext.mono {M M' : Nat → Prop} {w w' : World} (h : Ext M w w') (hm : ∀ k, k < w.heap.size → M k → M' k) : Ext M' w w' :=
  ⟨h.os, h.tape, h.output, h.size, fun k hk hn => h.keep k hk (fun c => hn (hm k hk c)), h.shp, h.fz⟩
theorem Ext.trans {M : Nat → Prop} {w w1 w2 : World} (h : Ext M w w1) (h' : Ext M w1 w2) : Ext M w w2 :=
  ⟨h'.os.trans h.os, h'.tape.trans h.tape, h'.output.trans h.output, Nat.le_trans h.size h'.size,
    fun k hk hn => (h'.keep k (Nat.lt_of_lt_of_le hk h.size) hn).trans (h.keep k hk hn), fun k sh hs => h'.shp k sh (h.shp k sh hs), fun k c e z hz => (h'.fz k c e z hz).elim .inl fun ⟨c0, e0, h0⟩ => h.fz k c0 e0 z h0⟩
theorem Ext.drew (M : Nat → Prop) (w : World) : Ext M w { w with drawn := w.drawn + 1 } :=
  ⟨rfl, rfl, rfl, Nat.le_refl _, fun _ _ _ => rfl, fun _ _ h => h, fun _ c e _ h => .inr ⟨c, e, h⟩⟩
theorem heap_alloc (w : World) (o : Obj) (k : Nat) (h : k < w.heap.size) : (w.alloc o).heap[k]? = w.heap[k]? := RowKit.Below.heap_alloc w o k h
theorem heap_setCell (w : World) (a : Addr) (u : Value) (k : Nat) (h : k ≠ a.block) : (w.setCell a u).heap[k]? = w.heap[k]? := RowKit.Below.heap_setCell w a u k h
theorem shape_lt {w : World} {k : Nat} {sh : TypeId × Nat} (hs : w.shape? k = some sh) : k < w.heap.size := by
  unfold World.shape? at hs
  split at hs
  · rename_i h; exact (Array.getElem?_eq_some_iff.1 h).1
  · cases hs
theorem shape_of {w w' : World} {k : Nat} (h : w'.heap[k]? = w.heap[k]?) : w'.shape? k = w.shape? k := by
  simp only [World.shape?, h]
theorem Ext.alloc (M : Nat → Prop) (w : World) (o : Obj) (ho : Unfz o) : Ext M w (w.alloc o) := by
  refine ⟨rfl, rfl, rfl, by simp, fun k hk _ => heap_alloc _ _ _ hk, fun k sh hs => (shape_of (heap_alloc _ _ _ (shape_lt hs))).trans hs, fun k c e z hz => ?_⟩
  rcases Nat.lt_trichotomy k w.heap.size with h | h | h
  · rw [heap_alloc _ _ _ h] at hz
    exact .inr ⟨c, e, hz⟩
  · subst h
    have : (w.alloc o).heap[w.heap.size]? = some o := (MapKept.heap_alloc w o).1
    rw [this] at hz
    cases hz
    exact .inl ho
  · rw [Array.getElem?_eq_none (by simp; omega)] at hz
    cases hz
theorem Ext.setCell {M : Nat → Prop} (w : World) (a : Addr) (v : Value) (h : M a.block) : Ext M w (w.setCell a v) := by
  refine ⟨rfl, rfl, rfl, by simp, fun k hk hn => heap_setCell _ _ _ _ (fun e => hn (e ▸ h)), fun k sh hs => ?_, fun k c e z hz => ?_⟩
  case refine_2 =>
    right
    by_cases hb : k = a.block
    · subst hb
      have e : (w.setCell a v).heap[a.block]? = (w.heap[a.block]?).map fun
          | .cells c elem frozen => .cells (if a.spot.isSome then c else c.setIfInBounds a.off v) elem frozen
          | o => o := by
        simp only [World.setCell, Array.getElem?_modify, if_true]
        rfl
      rw [e] at hz
      cases hh : w.heap[a.block]? with
      | none => rw [hh] at hz; cases hz
      | some x =>
        rw [hh] at hz
        cases x <;> simp only [Option.map_some, Option.some.injEq, reduceCtorEq] at hz
        cases hz
        exact ⟨_, _, rfl⟩
    · rw [heap_setCell _ _ _ _ hb] at hz
      exact ⟨c, e, hz⟩
  by_cases hb : k = a.block
  · subst hb
    have e : (w.setCell a v).heap[a.block]? = (w.heap[a.block]?).map fun
        | .cells c elem frozen => .cells (if a.spot.isSome then c else c.setIfInBounds a.off v) elem frozen
        | o => o := by
      simp only [World.setCell, Array.getElem?_modify, if_true]
      rfl
    unfold World.shape? at *
    rw [e]
    cases hh : w.heap[a.block]? with
    | none => rw [hh] at hs; cases hs
    | some x =>
      rw [hh] at hs
      cases x <;> simp only [Option.map_some] at * <;> first | cases hs | skip
      split <;> simp_all
  · exact (shape_of (heap_setCell _ _ _ _ hb)).trans hs

theorem cell?_same {w w' : World} {b : Nat} (h : w'.heap[b]? = w.heap[b]?) (o : Nat) (s : Option Nat) : w'.cell? ⟨b, o, s⟩ = w.cell? ⟨b, o, s⟩ := by
  simp only [World.cell?, h]

/-- What a relation rests on, from one world to the next. -/
structure Keeps (S S' : Seal) (w w' : World) : Prop where
  heap : ∀ k, S k → w'.heap[k]? = w.heap[k]?
  shp : ∀ k sh, w.shape? k = some sh → w'.shape? k = some sh
  sub : ∀ k, S k → S' k
mutual
theorem VRel.mono {S S' : Seal} {w w' : World} (hK : Keeps S S' w w') : ∀ (x : AV) (v : Value), VRel S w x v → VRel S' w' x v
  | .undef, _, _ => by simp only [VRel]
  | .bool _, _, h => by simpa only [VRel] using h
  | .int _ _, _, h => by simpa only [VRel] using h
  | .str _, _, h => by simpa only [VRel] using h
  | .agg cs, v, h => by
    simp only [VRel] at *
    obtain ⟨vs, e, h⟩ := h
    exact ⟨vs, e, LRel.mono hK cs vs h⟩
  | .isl sz l, v, h => by
    simp only [VRel] at *
    obtain ⟨oa, cap, e, h1, h2, h3⟩ := h
    refine ⟨oa, cap, e, h1, h2, ?_⟩
    rcases h3 with h3 | ⟨b, off, e2, hb, hr⟩
    · exact .inl h3
    · exact .inr ⟨b, off, e2, hK.sub _ hb, RowsRel.mono hK l b off sz (hK.heap b hb) hr⟩
  | .nsl, _, h => by simpa only [VRel] using h
  | .osl _ _ _, _, h => by
    simp only [VRel] at *
    obtain ⟨cap, e, h1, h2, h3⟩ := h
    exact ⟨cap, e, h1, hK.shp _ _ h2, h3⟩
  | .ptr _ _ _ _, _, h => by simpa only [VRel] using h
  | .ipt row _, _, h => by
    simp only [VRel] at *
    obtain ⟨b, off, e, hb, hr⟩ := h
    exact ⟨b, off, e, hK.sub _ hb, RowRel.mono hK row b off (hK.heap b hb) hr⟩
  | .npt, _, h => by simpa only [VRel] using h
  | .mp _, _, h => by simpa only [VRel] using h
  | .nmp, _, h => by simpa only [VRel] using h
  | .fn _ first captured, _, h => by
    simp only [VRel] at *
    obtain ⟨vs, us, e, h1, h2⟩ := h
    exact ⟨vs, us, e, LRel.mono hK first vs h1, LRel.mono hK captured us h2⟩
  | .nfn, _, h => by simpa only [VRel] using h
  | .ifc _ x, _, h => by
    simp only [VRel] at *
    obtain ⟨u, e, h1⟩ := h
    exact ⟨u, e, VRel.mono hK x u h1⟩
  | .nif, _, h => by simpa only [VRel] using h
  | .tup xs, _, h => by
    simp only [VRel] at *
    obtain ⟨vs, e, h1⟩ := h
    exact ⟨vs, e, LRel.mono hK xs vs h1⟩
theorem LRel.mono {S S' : Seal} {w w' : World} (hK : Keeps S S' w w') : ∀ (xs : List AV) (vs : List Value), LRel S w xs vs → LRel S' w' xs vs
  | [], _, h => by simpa only [LRel] using h
  | x :: xs, vs, h => by
    simp only [LRel] at *
    obtain ⟨u, us, e, h1, h2⟩ := h
    exact ⟨u, us, e, VRel.mono hK x u h1, LRel.mono hK xs us h2⟩
theorem RowRel.mono {S S' : Seal} {w w' : World} (hK : Keeps S S' w w') : ∀ (row : List AV) (b off : Nat), w'.heap[b]? = w.heap[b]? → RowRel S w b off row → RowRel S' w' b off row
  | [], _, _, _, _ => by simp only [RowRel]
  | x :: xs, b, off, hb, h => by
    simp only [RowRel] at *
    obtain ⟨⟨u, e, h1⟩, h2⟩ := h
    exact ⟨⟨u, (cell?_same hb off none).trans e, VRel.mono hK x u h1⟩, RowRel.mono hK xs b (off + 1) hb h2⟩
theorem RowsRel.mono {S S' : Seal} {w w' : World} (hK : Keeps S S' w w') : ∀ (l : List (List AV)) (b off sz : Nat), w'.heap[b]? = w.heap[b]? → RowsRel S w b off sz l → RowsRel S' w' b off sz l
  | [], _, _, _, _, _ => by simp only [RowsRel]
  | r :: rs, b, off, sz, hb, h => by
    simp only [RowsRel] at *
    exact ⟨h.1, RowRel.mono hK r b off hb h.2.1, RowsRel.mono hK rs b (off + sz) sz hb h.2.2⟩
end
end Go.Al
