/- The little logic, third part: frames, the part of memory that is owned, and the operations that only read. -/
import Derived.Test.YtcfapbmjaiipjaaDoorAlB
set_option linter.unusedSimpArgs false
set_option linter.unusedVariables false
namespace Go.Al

abbrev Fr := Nat → AV
def upd {α : Type} (f : Nat → α) (i : Nat) (v : α) : Nat → α := fun j => if j = i then v else f j
theorem upd_same {α : Type} (f : Nat → α) (i : Nat) (v : α) : upd f i v i = v := by simp [upd]
theorem upd_ne {α : Type} (f : Nat → α) {i j : Nat} (v : α) (h : j ≠ i) : upd f i v j = f j := by simp [upd, h]
theorem upd_comm {α : Type} (f : Nat → α) {i j : Nat} (v u : α) (h : i ≠ j) : upd (upd f i v) j u = upd (upd f j u) i v := by
  funext k
  unfold upd
  by_cases h1 : k = j <;> by_cases h2 : k = i <;> simp_all
/-- what the result of an operation does to a frame -/
def putF (fr : Fr) (d : Option Nat) (v : AV) : Fr := match d with | some i => upd fr i v | none => fr

/-- What an owned block is: rows of sz cells each, one behind the other from its head on; or a map. -/
inductive AObj where
  | rows (sz : Nat) (l : List (List AV))
  | amap (es : List (AV × AV))
abbrev Hp := Nat → Option AObj
def emp : Hp := fun _ => none

def EsRel (S : Seal) (w : World) : List (AV × AV) → List MapEntry → Prop
  | [], es => es = []
  | (k, v) :: r, es => ∃ e es', es = e :: es' ∧ VRel S w k e.key ∧ VRel S w v e.val ∧ EsRel S w r es'
def ORel (S : Seal) (w : World) (b : Nat) : AObj → Prop
  | .rows sz l => ∃ cs e, w.heap[b]? = some (.cells cs e (0, 0)) ∧ l.length * sz ≤ cs.size ∧ RowsRel S w b 0 sz l
  | .amap es => ∃ mes clock, w.heap[b]? = some (.map mes clock) ∧ EsRel S w es mes.toList
theorem EsRel.mono {S S' : Seal} {w w' : World} (hK : Keeps S S' w w') : ∀ (es : List (AV × AV)) (ms : List MapEntry), EsRel S w es ms → EsRel S' w' es ms
  | [], _, h => by simpa only [EsRel] using h
  | (k, v) :: r, ms, h => by
    simp only [EsRel] at *
    obtain ⟨e, es', h0, h1, h2, h3⟩ := h
    exact ⟨e, es', h0, VRel.mono hK k _ h1, VRel.mono hK v _ h2, EsRel.mono hK r es' h3⟩
theorem ORel.mono {S S' : Seal} {w w' : World} (hK : Keeps S S' w w') {b : Nat} (hb : w'.heap[b]? = w.heap[b]?) : ∀ (o : AObj), ORel S w b o → ORel S' w' b o
  | .rows sz l, h => by
    simp only [ORel] at *
    obtain ⟨cs, e, h1, h2, h3⟩ := h
    exact ⟨cs, e, hb.trans h1, h2, RowsRel.mono hK l b 0 sz hb h3⟩
  | .amap es, h => by
    simp only [ORel] at *
    obtain ⟨mes, clock, h1, h2⟩ := h
    exact ⟨mes, clock, hb.trans h1, EsRel.mono hK es _ h2⟩
theorem ORel.lt {S : Seal} {w : World} {b : Nat} {o : AObj} (h : ORel S w b o) : b < w.heap.size := by
  cases o <;> simp only [ORel] at h
  · obtain ⟨_, _, h, _⟩ := h; exact (Array.getElem?_eq_some_iff.1 h).1
  · obtain ⟨_, _, h, _⟩ := h; exact (Array.getElem?_eq_some_iff.1 h).1

/-- The program, and what its package-level variables hold, as rows that nobody writes. -/
structure Env where
  P : Program
  G : Nat → Option (List AV)

/-- Where a call began: the world, the blocks that it was handed as its own, the blocks that were sealed. -/
structure Start where
  w0 : World
  O : Nat → Prop
  S0 : Seal

/-- What is known of the world in the midst of a call. -/
structure St (E : Env) (γ : Start) (S : Seal) (H : Hp) (w : World) : Prop where
  lt : ∀ k, S k → k < w.heap.size
  base : ∀ k, γ.S0 k → S k
  src : ∀ k, S k → γ.S0 k ∨ γ.O k ∨ γ.w0.heap.size ≤ k
  obj : ∀ b o, H b = some o → ORel S w b o ∧ ¬ S b ∧ (γ.O b ∨ γ.w0.heap.size ≤ b)
  ext : Ext γ.O γ.w0 w
  glb : ∀ g row, E.G g = some row → S g ∧ RowRel S w g 0 row

/-- A frame of the model stands for an abstract one. -/
def FRel (S : Seal) (w : World) (fr : Fr) (a : Act) : Prop := ∀ t, VRel S w (fr t) (a.tmps.getD t Go.undef)

/-- An operand's abstract value. -/
def ev (G : Nat → Option (List AV)) (fr : Fr) : Operand → AV
  | .tmp t => fr t
  | .const v => avOf v
  | .global g => match G g with | some row => .ipt row 0 | none => .undef
  | .func f => .fn (.func f) [] []
theorem ev_rel {E : Env} {γ : Start} {S : Seal} {H : Hp} {w : World} (hst : St E γ S H w) {fr : Fr} {a : Act} (hf : FRel S w fr a) (x : Operand) :
    VRel S w (ev E.G fr x) (a.eval x) := by
  cases x with
  | tmp t => exact hf t
  | const v => exact VRel_avOf S w v
  | global g =>
    simp only [ev, Act.eval]
    split
    · rename_i row h
      obtain ⟨h1, h2⟩ := hst.glb g row h
      simp only [VRel]
      exact ⟨g, 0, rfl, h1, h2⟩
    · simp only [VRel]
  | func f => simp only [ev, Act.eval, VRel, LRel]; exact ⟨[], [], rfl, rfl, rfl⟩

/-! ### reading -/
/-- the part of a row that a type takes, from cell j on -/
def rd (ti : TI) (row : List AV) (j : Nat) : Option AV :=
  if ti.k.agg then (if j + ti.size ≤ row.length then some (.agg ((row.drop j).take ti.size)) else none) else row[j]?
theorem rd_sound {P : Program} {t : TypeId} {ti : TI} (ht : tinfo P t = some ti) {S : Seal} {w : World} {b off : Nat} {row : List AV} (hr : RowRel S w b off row) {j : Nat} {v : AV} (h : rd ti row j = some v) :
    ∃ v', (loadVar t ⟨b, off + j, none⟩).run P w = .ok v' w ∧ VRel S w v v' := by
  unfold rd at h
  simp only [loadVar, Sem.run_bind, run_isAgg ht, Result.andThen_ok]
  split at h
  · rename_i ha
    split at h
    · rename_i hle
      obtain rfl := (Option.some.inj h).symm
      obtain ⟨vs, hl, hc⟩ := hr.vals
      have hl2 := (hl.drop j).take ti.size
      have hlen : ((vs.drop j).take ti.size).length = ti.size := by
        rw [List.length_take, List.length_drop, hl.length]; omega
      have hrun := run_loadCells_list (P := P) w ⟨b, off + j, none⟩ ((vs.drop j).take ti.size) (fun i x hx => by
        rw [List.getElem?_take] at hx
        split at hx
        · rw [List.getElem?_drop] at hx
          have := hc _ _ hx
          rw [Addr.add_lit, show off + j + i = off + (j + i) by omega]
          exact this
        · cases hx)
      rw [hlen] at hrun
      simp only [ha, if_true, Sem.run_bind, run_sizeOf ht, Result.andThen_ok, hrun, Sem.run_pure]
      exact ⟨_, rfl, by simp only [VRel]; exact ⟨_, rfl, hl2⟩⟩
    · cases h
  · rename_i ha
    obtain ⟨u, hu, hv⟩ := hr.get j h
    simp only [ha, Bool.false_eq_true, if_false, run_load, hu]
    exact ⟨u, rfl, hv⟩

/-- what lies behind a pointer -/
def aload (H : Hp) (ti : TI) : AV → Option AV
  | .ptr sz b i j => match H b with
    | some (.rows sz' l) => if sz = sz' then (l[i]?).bind fun row => rd ti row j else none
    | _ => none
  | .ipt row j => rd ti row j
  | _ => none
theorem aload_sound {E : Env} {γ : Start} {S : Seal} {H : Hp} {w : World} (hst : St E γ S H w) {t : TypeId} {ti : TI} (ht : tinfo E.P t = some ti) {x v : AV} {x' : Value}
    (hx : VRel S w x x') (h : aload H ti x = some v) : ∃ v', (Instr.loadAt t x').run E.P w = .ok v' w ∧ VRel S w v v' := by
  cases x <;> simp only [aload] at h <;> try (cases h; done)
  case ptr sz b i j =>
    split at h
    · rename_i sz' l hb
      split at h
      · rename_i e
        subst e
        rw [Option.bind_eq_some_iff] at h
        obtain ⟨row, hrow, h⟩ := h
        have ho := (hst.obj b _ hb).1
        simp only [ORel] at ho
        obtain ⟨cs, e, _, _, hr⟩ := ho
        obtain ⟨_, hr⟩ := RowsRel.get i hr hrow
        simp only [VRel] at hx
        subst hx
        obtain ⟨v', h1, h2⟩ := rd_sound ht hr h
        refine ⟨v', ?_, h2⟩
        simp only [Instr.loadAt, Instr.sureAddr, pure_bind]
        rw [show i * sz + j = 0 + i * sz + j by omega]
        exact h1
      · cases h
    · cases h
  case ipt row j =>
    simp only [VRel] at hx
    obtain ⟨b, off, rfl, _, hr⟩ := hx
    obtain ⟨v', h1, h2⟩ := rd_sound ht hr h
    exact ⟨v', by simpa only [Instr.loadAt, Instr.sureAddr, pure_bind] using h1, h2⟩

end Go.Al
