/- The little logic, eighth part: contracts of functions; the operations that make memory, write it, or call. -/
import Derived.Test.YtcfapbmjaiipjaaDoorAlG
set_option linter.unusedSimpArgs false
set_option linter.unusedVariables false
namespace Go.Al

/-- how a call ends -/
inductive AEnd where
  | ret (v : AV)
  | pan (v : AV)
def ERel (S : Seal) (w : World) : AEnd → Ending → Prop
  | .ret v, e => ∃ v', e = .returned v' ∧ VRel S w v v'
  | .pan v, e => ∃ v', e = .panicked [{ v := v', recovered := false }] ∧ VRel S w v v'
def dom (H : Hp) : Nat → Prop := fun b => H b ≠ none
/-- A function of the program that has a body and may be entered. -/
def Ent (E : Env) (f : FuncId) : Prop := ∃ fn, E.P.funcs[f]? = some fn ∧ (fn.name == "runtime.NumGoroutine") = false ∧ fn.body.isNone = false
/-- THE CONTRACT OF A FUNCTION: called with values that stand for these, in whatever world, with these blocks as its own, it ends as R says. -/
def Con (E : Env) (f : FuncId) (args : List AV) (H0 : Hp) (R : AEnd → Hp → Prop) : Prop :=
  Ent E f ∧ ∀ (w0 : World) (S0 : Seal) (vs : List Value), St E ⟨w0, dom H0, S0⟩ S0 H0 w0 → LRel S0 w0 args vs →
    Calls E.P f vs.toArray w0 fun e w' => ∃ ae H' S', St E ⟨w0, dom H0, S0⟩ S' H' w' ∧ ERel S' w' ae e ∧ R ae H'
def Sub (x y : AV) : Prop := ∀ S w v, VRel S w x v → VRel S w y v
def SubL (xs ys : List AV) : Prop := ∀ S w vs, LRel S w xs vs → LRel S w ys vs
theorem Sub.refl (x : AV) : Sub x x := fun _ _ _ h => h
theorem SubL.refl (x : List AV) : SubL x x := fun _ _ _ h => h
theorem SubL.cons {x y : AV} {xs ys : List AV} (h : Sub x y) (h' : SubL xs ys) : SubL (x :: xs) (y :: ys) := by
  intro S w vs h1
  simp only [LRel] at *
  obtain ⟨u, us, e, h1, h2⟩ := h1
  exact ⟨u, us, e, h _ _ _ h1, h' _ _ _ h2⟩
theorem Sub.undef (x : AV) : Sub x .undef := fun _ _ _ _ => by simp only [VRel]
theorem Sub.nsl (sz : Nat) : Sub .nsl (.isl sz []) := by
  intro S w v h
  simp only [VRel] at *
  exact ⟨none, 0, h, Nat.le_refl _, by simp [maxLen], .inl trivial⟩
theorem Sub.agg {xs ys : List AV} (h : SubL xs ys) : Sub (.agg xs) (.agg ys) := by
  intro S w v h1
  simp only [VRel] at *
  obtain ⟨vs, e, h1⟩ := h1
  exact ⟨vs, e, h _ _ _ h1⟩
theorem Sub.tup {xs ys : List AV} (h : SubL xs ys) : Sub (.tup xs) (.tup ys) := by
  intro S w v h1
  simp only [VRel] at *
  obtain ⟨vs, e, h1⟩ := h1
  exact ⟨vs, e, h _ _ _ h1⟩

def hsub (H0 H : Hp) : Prop := ∀ b o, H0 b = some o → H b = some o
/-- what is owned behind a call that was handed H0 of H and left H' -/
def hjoin (H' H0 H : Hp) : Hp := fun b => match H' b with | some o => some o | none => if (H0 b).isSome then none else H b
theorem hjoin_emp (H : Hp) : hjoin emp emp H = H := by funext b; simp [hjoin, emp]
theorem hsub_emp (H : Hp) : hsub emp H := fun b o h => by cases h

/-! ### what steps keep -/
section
variable {E : Env} {γ : Start} {S : Seal} {H : Hp} {w : World} {fr : Fr} {a : Act}

theorem St.keeps (hst : St E γ S H w) {M : Nat → Prop} {w' : World} (hE : Ext M w w') (hM : ∀ k, M k → k < w.heap.size → ¬ S k) {S' : Seal} (hS : ∀ k, S k → S' k) : Keeps S S' w w' :=
  ⟨fun k hk => hE.keep k (hst.lt k hk) (fun c => hM k c (hst.lt k hk) hk), hE.shp, hS⟩
theorem FRel.keeps {S' : Seal} {w' : World} (hK : Keeps S S' w w') (hf : FRel S w fr a) : FRel S' w' fr a := fun t => VRel.mono hK _ _ (hf t)
theorem FRel.put (hf : FRel S w fr a) {d : Option Nat} (hd : ∀ i, d = some i → i < a.tmps.size) {v : AV} {v' : Value} (hv : VRel S w v v') : FRel S w (putF fr d v) (a.put d v') := by
  intro t
  cases d with
  | none => exact hf t
  | some i =>
    have hi := hd i rfl
    simp only [putF, Act.put, upd]
    by_cases h : t = i
    · subst h
      simp only [if_true]
      have : (a.tmps.setIfInBounds t v').getD t Go.undef = v' := by simp [Array.getD_eq_getD_getElem?, hi]
      rw [this]; exact hv
    · simp only [if_neg h]
      have : (a.tmps.setIfInBounds i v').getD t Go.undef = a.tmps.getD t Go.undef := by
        simp only [Array.getD_eq_getD_getElem?]
        rw [Array.getElem?_setIfInBounds_ne (fun e => h e.symm)]
      rw [this]; exact hf t

/-- A step of the world: blocks of M (all owned) may have turned, new ones may be there; what is sealed grows by new blocks, or by owned ones. -/
theorem St.step (hst : St E γ S H w) {M : Nat → Prop} {w' : World} (hE : Ext M w w') (hM : ∀ k, M k → k < w.heap.size → H k ≠ none) {S' : Seal} {H' : Hp}
    (hS : ∀ k, S k → S' k) (hlt : ∀ k, S' k → k < w'.heap.size) (hsrc : ∀ k, S' k → S k ∨ H k ≠ none ∨ w.heap.size ≤ k)
    (hH : ∀ b o, H' b = some o → ¬ S' b ∧ ((H b = some o ∧ ¬ M b) ∨ (ORel S' w' b o ∧ (H b ≠ none ∨ w.heap.size ≤ b)))) : St E γ S' H' w' := by
  have own : ∀ b, H b ≠ none → γ.O b ∨ γ.w0.heap.size ≤ b := fun b hb => by
    cases ho : H b with
    | none => exact absurd ho hb
    | some o => exact (hst.obj b o ho).2.2
  have hK : Keeps S S' w w' := hst.keeps hE (fun k hk hl => by
    cases ho : H k with
    | none => exact absurd ho (hM k hk hl)
    | some o => exact (hst.obj k o ho).2.1) hS
  refine ⟨hlt, fun k hk => hS k (hst.base k hk), fun k hk => ?_, fun b o hb => ?_, ?_, fun g row hg => ?_⟩
  · rcases hsrc k hk with h | h | h
    · exact hst.src k h
    · exact .inr (own k h)
    · exact .inr (.inr (Nat.le_trans hst.ext.size h))
  · obtain ⟨h1, h2⟩ := hH b o hb
    rcases h2 with ⟨h2, h3⟩ | ⟨h2, h3⟩
    · have ho := (hst.obj b o h2).1
      exact ⟨ORel.mono hK (hE.keep b ho.lt h3) o ho, h1, (hst.obj b o h2).2.2⟩
    · refine ⟨h2, h1, ?_⟩
      rcases h3 with h3 | h3
      · exact own b h3
      · exact .inr (Nat.le_trans hst.ext.size h3)
  · have hx := hst.ext
    refine ⟨hE.os.trans hx.os, hE.tape.trans hx.tape, hE.output.trans hx.output, Nat.le_trans hx.size hE.size, fun k hk hn => ?_, fun k sh hs => hE.shp k sh (hx.shp k sh hs), fun k c e z hz => (hE.fz k c e z hz).elim .inl fun ⟨c0, e0, h0⟩ => hx.fz k c0 e0 z h0⟩
    rw [hE.keep k (Nat.lt_of_lt_of_le hk hx.size) (fun c => ?_)]
    · exact hx.keep k hk hn
    · rcases own k (hM k c (Nat.lt_of_lt_of_le hk hx.size)) with h | h
      · exact hn h
      · omega
  · obtain ⟨h1, h2⟩ := hst.glb g row hg
    exact ⟨hS g h1, RowRel.mono hK row g 0 (hK.heap g h1) h2⟩

/-- a new block -/
theorem St.alloc (hst : St E γ S H w) {ob : Obj} {o : AObj} (ho : ORel S (w.alloc ob) w.heap.size o) (hz : Unfz ob := by rfl) : H w.heap.size = none ∧ Keeps S S w (w.alloc ob) ∧ St E γ S (upd H w.heap.size (some o)) (w.alloc ob) := by
  have hn : H w.heap.size = none := by
    cases h : H w.heap.size with
    | none => rfl
    | some o' => exact absurd (hst.obj _ _ h).1.lt (Nat.lt_irrefl _)
  refine ⟨hn, hst.keeps (Ext.alloc (fun _ => False) w ob hz) (fun _ h => h.elim) (fun _ h => h), hst.step (Ext.alloc (fun _ => False) w ob hz) (fun _ h => h.elim) (fun _ h => h) (fun k hk => by simp; exact Nat.lt_succ_of_lt (hst.lt k hk)) (fun k hk => .inl hk) fun b o' hb => ?_⟩
  by_cases e : b = w.heap.size
  · subst e
    simp only [upd, if_true, Option.some.injEq] at hb
    subst hb
    exact ⟨fun hs => Nat.lt_irrefl _ (hst.lt _ hs), .inr ⟨ho, .inr (Nat.le_refl _)⟩⟩
  · simp only [upd, if_neg e] at hb
    exact ⟨(hst.obj b o' hb).2.1, .inl ⟨hb, fun h => h⟩⟩
/-- a new block that is sealed at once -/
theorem St.allocSealed (hst : St E γ S H w) {ob : Obj} (hz : Unfz ob := by rfl) : Keeps S (fun k => S k ∨ k = w.heap.size) w (w.alloc ob) ∧ St E γ (fun k => S k ∨ k = w.heap.size) H (w.alloc ob) := by
  refine ⟨hst.keeps (Ext.alloc (fun _ => False) w ob hz) (fun _ h => h.elim) (fun _ h => .inl h), hst.step (Ext.alloc (fun _ => False) w ob hz) (fun _ h => h.elim) (fun _ h => .inl h) (fun k hk => ?_) (fun k hk => ?_) fun b o' hb => ?_⟩
  · simp
    rcases hk with hk | hk
    · exact Nat.lt_succ_of_lt (hst.lt k hk)
    · omega
  · rcases hk with hk | hk
    · exact .inl hk
    · exact .inr (.inr (by omega))
  · refine ⟨fun hs => ?_, .inl ⟨hb, fun h => h⟩⟩
    rcases hs with hs | hs
    · exact (hst.obj b o' hb).2.1 hs
    · have := (hst.obj b o' hb).1.lt; omega
/-- Rows of a block that is new. -/
theorem RowsRel.fresh {cs : Array Value} {e : TypeId} {S' : Seal} (hK : Keeps S S' w (w.alloc (.cells cs e))) {vs : List Value} {sz : Nat} {l : List (List AV)} (hcs : cs.toList.take (l.length * sz) = vs)
    (hl : ∀ i row, l[i]? = some row → row.length = sz ∧ LRel S w row ((vs.drop (i * sz)).take sz)) : RowsRel S' (w.alloc (.cells cs e)) w.heap.size 0 sz l := by
  refine RowsRel.of_get fun i row hr => ?_
  obtain ⟨h1, h2⟩ := hl i row hr
  refine ⟨h1, RowRel.of_vals (LRel.mono hK _ _ h2) fun j v hj => ?_⟩
  rw [World.cell?_alloc_new]
  rw [List.getElem?_take] at hj
  split at hj
  · rw [List.getElem?_drop, ← hcs, List.getElem?_take] at hj
    split at hj
    · simpa using hj
    · cases hj
  · cases hj
end
end Go.Al
