/- The little logic, fifteenth part: how a list of operations is gone through, one rule an operation, each by unfolding. -/
import Derived.Test.YtcfapbmjaiipjaaDoorAlN
set_option linter.unusedSimpArgs false
set_option linter.unusedVariables false
namespace Go.Al
section
variable (E : Env) (F : Nat → Prop) (ds : List (Option Nat)) (Q : APost) (d : Option Nat) (ty : TypeId) (pos : String) (af : Array Edge) (rest : List Oper) (fr : Fr) (H : Hp)

/-- an operation that only reads, its value found -/
def awpQ (o : Option AV) : Prop := match o with | some v => awpL E F ds Q rest (putF fr d v) H | none => False
theorem awpQ_some (v : AV) : awpQ E F ds Q d rest fr H (some v) = awpL E F ds Q rest (putF fr d v) H := Eq.trans rfl rfl
theorem awpL_nil : awpL E F ds Q [] fr H = Q .normal fr H := Eq.trans rfl rfl
theorem awpL_move (x : Operand) : awpL E F ds Q (⟨d, .move x, ty, pos, af, none⟩ :: rest) fr H = awpL E F ds Q rest (putF fr d (ev E.G fr x)) H := Eq.trans rfl rfl
theorem awpL_assign (x : Operand) : awpL E F ds Q (⟨d, .assign x, ty, pos, af, none⟩ :: rest) fr H = awpL E F ds Q rest (putF fr d (ev E.G fr x)) H := Eq.trans rfl rfl
theorem awpL_pick (c x y : Operand) : awpL E F ds Q (⟨d, .pick c x y, ty, pos, af, none⟩ :: rest) fr H = awpQ E F ds Q d rest fr H (aq E H fr (.pick c x y)) := Eq.trans rfl rfl
theorem awpL_load (t : TypeId) (x : Operand) : awpL E F ds Q (⟨d, .load t x, ty, pos, af, none⟩ :: rest) fr H = awpQ E F ds Q d rest fr H (aq E H fr (.load t x)) := Eq.trans rfl rfl
theorem awpL_nilCheck (x : Operand) : awpL E F ds Q (⟨d, .nilCheck x, ty, pos, af, none⟩ :: rest) fr H = awpQ E F ds Q d rest fr H (aq E H fr (.nilCheck x)) := Eq.trans rfl rfl
theorem awpL_binOp (o : BinOp) (t u : TypeId) (x y : Operand) : awpL E F ds Q (⟨d, .binOp o t x y u, ty, pos, af, none⟩ :: rest) fr H = awpQ E F ds Q d rest fr H (aq E H fr (.binOp o t x y u)) := Eq.trans rfl rfl
theorem awpL_unOp (o : UnOp) (t : TypeId) (x : Operand) : awpL E F ds Q (⟨d, .unOp o t x, ty, pos, af, none⟩ :: rest) fr H = awpQ E F ds Q d rest fr H (aq E H fr (.unOp o t x)) := Eq.trans rfl rfl
theorem awpL_convert (s t : TypeId) (x : Operand) : awpL E F ds Q (⟨d, .convert s t x, ty, pos, af, none⟩ :: rest) fr H = awpQ E F ds Q d rest fr H (aq E H fr (.convert s t x)) := Eq.trans rfl rfl
theorem awpL_slice (t : TypeId) (x : Operand) (l h m : Option Operand) : awpL E F ds Q (⟨d, .slice t x l h m, ty, pos, af, none⟩ :: rest) fr H = awpQ E F ds Q d rest fr H (aq E H fr (.slice t x l h m)) := Eq.trans rfl rfl
theorem awpL_fieldAddr (t : TypeId) (x : Operand) (f : Nat) : awpL E F ds Q (⟨d, .fieldAddr t x f, ty, pos, af, none⟩ :: rest) fr H = awpQ E F ds Q d rest fr H (aq E H fr (.fieldAddr t x f)) := Eq.trans rfl rfl
theorem awpL_field (t : TypeId) (x : Operand) (f : Nat) : awpL E F ds Q (⟨d, .field t x f, ty, pos, af, none⟩ :: rest) fr H = awpQ E F ds Q d rest fr H (aq E H fr (.field t x f)) := Eq.trans rfl rfl
theorem awpL_indexAddr (t : TypeId) (x i : Operand) : awpL E F ds Q (⟨d, .indexAddr t x i, ty, pos, af, none⟩ :: rest) fr H = awpQ E F ds Q d rest fr H (aq E H fr (.indexAddr t x i)) := Eq.trans rfl rfl
theorem awpL_index (t : TypeId) (x i : Operand) : awpL E F ds Q (⟨d, .index t x i, ty, pos, af, none⟩ :: rest) fr H = awpQ E F ds Q d rest fr H (aq E H fr (.index t x i)) := Eq.trans rfl rfl
theorem awpL_extract (x : Operand) (i : Nat) : awpL E F ds Q (⟨d, .extract x i, ty, pos, af, none⟩ :: rest) fr H = awpQ E F ds Q d rest fr H (aq E H fr (.extract x i)) := Eq.trans rfl rfl
theorem awpL_makeInterface (t : TypeId) (x : Operand) : awpL E F ds Q (⟨d, .makeInterface t x, ty, pos, af, none⟩ :: rest) fr H = awpQ E F ds Q d rest fr H (aq E H fr (.makeInterface t x)) := Eq.trans rfl rfl
theorem awpL_makeFunc (f : Fn) (x y : Array Operand) : awpL E F ds Q (⟨d, .makeFunc f x y, ty, pos, af, none⟩ :: rest) fr H = awpQ E F ds Q d rest fr H (aq E H fr (.makeFunc f x y)) := Eq.trans rfl rfl
theorem awpL_lookup (t : TypeId) (x k : Operand) (ok : Bool) : awpL E F ds Q (⟨d, .lookup t x k ok, ty, pos, af, none⟩ :: rest) fr H = awpQ E F ds Q d rest fr H (aq E H fr (.lookup t x k ok)) := Eq.trans rfl rfl
theorem awpL_build (t : TypeId) (ps : Array (Nat × Operand)) : awpL E F ds Q (⟨d, .build t ps, ty, pos, af, none⟩ :: rest) fr H = awpQ E F ds Q d rest fr H (aq E H fr (.build t ps)) := Eq.trans rfl rfl
theorem awpL_len (args : Array Operand) (ts : Array TypeId) : awpL E F ds Q (⟨d, .call ⟨.builtin .len, args, ts⟩, ty, pos, af, none⟩ :: rest) fr H = awpQ E F ds Q d rest fr H (aq E H fr (.call ⟨.builtin .len, args, ts⟩)) := Eq.trans rfl rfl
theorem awpL_min (args : Array Operand) (ts : Array TypeId) : awpL E F ds Q (⟨d, .call ⟨.builtin .min, args, ts⟩, ty, pos, af, none⟩ :: rest) fr H = awpQ E F ds Q d rest fr H (aq E H fr (.call ⟨.builtin .min, args, ts⟩)) := Eq.trans rfl rfl
theorem awpL_max (args : Array Operand) (ts : Array TypeId) : awpL E F ds Q (⟨d, .call ⟨.builtin .max, args, ts⟩, ty, pos, af, none⟩ :: rest) fr H = awpQ E F ds Q d rest fr H (aq E H fr (.call ⟨.builtin .max, args, ts⟩)) := Eq.trans rfl rfl

theorem awpL_mark (x : Operand) : awpL E F ds Q (⟨d, .entry x, ty, pos, af, none⟩ :: rest) fr H = ((∀ b, atouch (ev E.G fr x) = some b → ¬ F b) ∧ awpL E F ds Q rest (putF fr d (.tup [])) H) := Eq.trans rfl rfl

/-- a guarded operation -/
def awpG (b : Option Bool) (o : Oper) : Prop := match b with | some true => awpL E F ds Q (o :: rest) fr H | some false => awpL E F ds Q rest (putF fr o.dst (.tup [])) H | none => False
theorem awpL_guard (o : Op) (g : Nat × Bool) : awpL E F ds Q (⟨d, o, ty, pos, af, some g⟩ :: rest) fr H = awpG E F ds Q rest fr H (aWant ds fr (some g)) ⟨d, o, ty, pos, af, none⟩ := by
  simp only [awpL, aop, awpG]
  generalize aWant ds fr (some g) = b
  cases b with
  | none => cases o <;> rfl
  | some b => cases b <;> cases o <;> rfl
theorem awpG_true (o : Oper) : awpG E F ds Q rest fr H (some true) o = awpL E F ds Q (o :: rest) fr H := Eq.trans rfl rfl
theorem awpG_false (o : Oper) : awpG E F ds Q rest fr H (some false) o = awpL E F ds Q rest (putF fr o.dst (.tup [])) H := Eq.trans rfl rfl
variable {E F ds Q d ty pos af rest fr H}
theorem awpG_split {b : Bool} {o : Oper} (h1 : b = true → awpL E F ds Q (o :: rest) fr H) (h2 : b = false → awpL E F ds Q rest (putF fr o.dst (.tup [])) H) : awpG E F ds Q rest fr H (some b) o := by
  cases b
  · exact h2 rfl
  · exact h1 rfl
theorem awpG_splitN {b : Bool} {o : Oper} (h1 : b = false → awpL E F ds Q (o :: rest) fr H) (h2 : b = true → awpL E F ds Q rest (putF fr o.dst (.tup [])) H) : awpG E F ds Q rest fr H (some (!b)) o := by
  cases b
  · exact h1 rfl
  · exact h2 rfl
variable (E F ds Q d ty pos af rest fr H)

/-- an operation that makes a block -/
def awpN (p : Option ((Nat → AV) × AObj)) : Prop := match p with | some p => ∀ b, H b = none → awpL E F ds Q rest (putF fr d (p.1 b)) (upd H b (some p.2)) | none => False
theorem awpL_alloc (t : TypeId) : awpL E F ds Q (⟨d, .alloc t, ty, pos, af, none⟩ :: rest) fr H = awpN E F ds Q d rest fr H (newObj E fr (.alloc t)) := Eq.trans rfl rfl
theorem awpL_box (t : TypeId) (x : Operand) : awpL E F ds Q (⟨d, .box t x, ty, pos, af, none⟩ :: rest) fr H = awpN E F ds Q d rest fr H (newObj E fr (.box t x)) := Eq.trans rfl rfl
theorem awpL_makeMap (t : TypeId) (r : Option Operand) : awpL E F ds Q (⟨d, .makeMap t r, ty, pos, af, none⟩ :: rest) fr H = awpN E F ds Q d rest fr H (newObj E fr (.makeMap t r)) := Eq.trans rfl rfl
theorem awpL_makeSlice (t : TypeId) (l c : Operand) : awpL E F ds Q (⟨d, .makeSlice t l c, ty, pos, af, none⟩ :: rest) fr H = awpN E F ds Q d rest fr H (newObj E fr (.makeSlice t l c)) := Eq.trans rfl rfl
variable {E F ds Q d ty pos af rest fr H}
theorem awpN_intro {p : (Nat → AV) × AObj} (h : ∀ b, H b = none → awpL E F ds Q rest (putF fr d (p.1 b)) (upd H b (some p.2))) : awpN E F ds Q d rest fr H (some p) := h
variable (E F ds Q d ty pos af rest fr H)
/-- a slice literal -/
def awpB (len : Nat) (p : Option (Nat × List (List AV))) : Prop := match p with
  | some p => awpL E F ds Q rest (putF fr d (.isl p.1 p.2)) H ∨ ∀ b, H b = none → awpL E F ds Q rest (putF fr d (.osl p.1 b len)) (upd H b (some (.rows p.1 p.2)))
  | none => False
theorem awpL_buildSlice (t : TypeId) (len : Nat) (ps : Array (Nat × Operand)) : awpL E F ds Q (⟨d, .buildSlice t len ps, ty, pos, af, none⟩ :: rest) fr H = awpB E F ds Q d rest fr H len (alit E fr t len ps) := Eq.trans rfl rfl
variable {E F ds Q d ty pos af rest fr H}
theorem awpB_sealed {len sz : Nat} {rows : List (List AV)} (h : awpL E F ds Q rest (putF fr d (.isl sz rows)) H) : awpB E F ds Q d rest fr H len (some (sz, rows)) := .inl h
theorem awpB_own {len sz : Nat} {rows : List (List AV)} (h : ∀ b, H b = none → awpL E F ds Q rest (putF fr d (.osl sz b len)) (upd H b (some (.rows sz rows)))) : awpB E F ds Q d rest fr H len (some (sz, rows)) := .inr h
variable (E F ds Q d ty pos af rest fr H)
/-- a store -/
def awpS (q : Option (Nat × Hp)) : Prop := match q with | some q => F q.1 ∧ awpL E F ds Q rest (putF fr d (.tup [])) q.2 | none => False
theorem awpS_some (q : Nat × Hp) : awpS E F ds Q d rest fr (some q) = (F q.1 ∧ awpL E F ds Q rest (putF fr d (.tup [])) q.2) := Eq.trans rfl rfl
theorem awpL_store (t : TypeId) (p x : Operand) : awpL E F ds Q (⟨d, .store t p x, ty, pos, af, none⟩ :: rest) fr H = awpS E F ds Q d rest fr (astore E H fr t p x) := by
  simp only [awpL, aop, aWant, astep, awpS]
  split <;> simp [*]
theorem awpL_mapUpdate (t : TypeId) (m k x : Operand) : awpL E F ds Q (⟨d, .mapUpdate t m k x, ty, pos, af, none⟩ :: rest) fr H = awpS E F ds Q d rest fr (amapset E H fr t m k x) := by
  simp only [awpL, aop, aWant, astep, awpS]
  split <;> simp [*]
theorem awpL_insert (t : TypeId) (m k x : Operand) : awpL E F ds Q (⟨d, .insert t m k x, ty, pos, af, none⟩ :: rest) fr H = awpS E F ds Q d rest fr (amapset E H fr t m k x) := by
  simp only [awpL, aop, aWant, astep, awpS]
  split <;> simp [*]
/-- an append -/
def awpA (p : Option (Nat × Nat × AV × List (List AV))) : Prop := match p with
  | some (sz, by', .nsl, ys) => ys.length * by' ≤ 140737488355328 ∧ (ys = [] → awpL E F ds Q rest (putF fr d .nsl) H) ∧ (ys ≠ [] → ∀ b, H b = none → awpL E F ds Q rest (putF fr d (.osl sz b ys.length)) (upd H b (some (.rows sz ys))))
  | some (sz, by', .osl sz' b len, ys) => match H b with
    | some (.rows sz'' l) => sz' = sz ∧ sz'' = sz ∧ len = l.length ∧ (l.length + ys.length) * by' ≤ 140737488355328 ∧ F b ∧
      ∀ b', (b' = b ∨ H b' = none) → awpL E F ds Q rest (putF fr d (.osl sz b' (l.length + ys.length))) (upd (upd H b none) b' (some (.rows sz (l ++ ys))))
    | _ => False
  | _ => False
theorem awpL_append (args : Array Operand) (ts : Array TypeId) : awpL E F ds Q (⟨d, .call ⟨.builtin .append, args, ts⟩, ty, pos, af, none⟩ :: rest) fr H = awpA E F ds Q d rest fr H (aapp E H fr args ts) := Eq.trans rfl rfl
/-- a panic -/
def awpP (v : AV) : Prop := match v with | .ifc t x => Q (.pan (.ifc t x)) frU H | _ => False
theorem awpP_ifc (t : TypeId) (x : AV) : awpP Q H (.ifc t x) = Q (.pan (.ifc t x)) frU H := Eq.trans rfl rfl
theorem awpL_panic (x : Operand) : awpL E F ds Q (⟨d, .panic x, ty, pos, af, none⟩ :: rest) fr H = awpP Q H (ev E.G fr x) := Eq.trans rfl rfl
/-- a call -/
def awpC (g : FuncId) (args : List AV) : Prop := ∃ args' H0 R, SubL args args' ∧ Con E g args' H0 R ∧ hsub H0 H ∧ (∀ b, H0 b ≠ none → F b) ∧
  ∀ ae H', R ae H' → (∀ b, H' b ≠ none → H0 b ≠ none ∨ H b = none) → (match ae with | .ret v => awpL E F ds Q rest (putF fr d v) (hjoin H' H0 H) | .pan v => Q (.pan v) frU (hjoin H' H0 H))
def awpF (f : AV) (args : List AV) : Prop := match f with | .fn (.func g) first cap => awpC E F ds Q d rest fr H g (first ++ args ++ cap) | _ => False
theorem awpF_fn (g : FuncId) (first cap args : List AV) : awpF E F ds Q d rest fr H (.fn (.func g) first cap) args = awpC E F ds Q d rest fr H g (first ++ args ++ cap) := Eq.trans rfl rfl
theorem awpL_call (f : Operand) (args : Array Operand) (ts : Array TypeId) : awpL E F ds Q (⟨d, .call ⟨.value f, args, ts⟩, ty, pos, af, none⟩ :: rest) fr H = awpF E F ds Q d rest fr H (ev E.G fr f) (args.toList.map (ev E.G fr)) := Eq.trans rfl rfl
end

theorem thenQ_normal (next : Fr → Hp → Prop) (Q : APost) (fr : Fr) (H : Hp) : thenQ next Q .normal fr H = next fr H := Eq.trans rfl rfl
/-- a piece, and what stands behind it under a name -/
theorem awp_seq_k {E : Env} {N : Nat} {Q : APost} {fr : Fr} {H : Hp} {x y : Code} (h : ∀ K : Fr → Hp → Prop, (∀ fr H, awp E N y Q fr H → K fr H) → awp E N x (thenQ K Q) fr H) : awp E N (.seq x y) Q fr H :=
  awp_seq (h _ fun _ _ h => h)
theorem bool_ite (b x y : Bool) : (if b = true then AV.bool x else AV.bool y) = AV.bool (if b = true then x else y) := by split <;> rfl

/-- A function that only computes: its value. -/
def PCon (E : Env) (g : FuncId) (args : List AV) (v : AV) : Prop := Con E g args emp (fun ae H' => ae = .ret v ∧ H' = emp)
section
variable {E : Env} {F : Nat → Prop} {ds : List (Option Nat)} {Q : APost} {d : Option Nat} {rest : List Oper} {fr : Fr} {H : Hp} {g : FuncId} {args : List AV}
theorem awpC_pure {args' : List AV} {v : AV} (hc : PCon E g args' v) (hs : SubL args args') (h : awpL E F ds Q rest (putF fr d v) H) : awpC E F ds Q d rest fr H g args :=
  ⟨args', emp, _, hs, hc, hsub_emp H, fun _ hb => absurd rfl hb, fun ae H' ⟨e1, e2⟩ _ => by subst e1; subst e2; rw [hjoin_emp]; exact h⟩
theorem awpC_pure' {v : AV} (hc : PCon E g args v) (h : awpL E F ds Q rest (putF fr d v) H) : awpC E F ds Q d rest fr H g args := awpC_pure hc (SubL.refl _) h
theorem awpC_con {args' : List AV} {H0 : Hp} {R : AEnd → Hp → Prop} (hc : Con E g args' H0 R) (hs : SubL args args') (hh : hsub H0 H) (hF : ∀ b, H0 b ≠ none → F b)
    (h : ∀ ae H', R ae H' → (∀ b, H' b ≠ none → H0 b ≠ none ∨ H b = none) → (match ae with | .ret v => awpL E F ds Q rest (putF fr d v) (hjoin H' H0 H) | .pan v => Q (.pan v) frU (hjoin H' H0 H))) : awpC E F ds Q d rest fr H g args :=
  ⟨args', H0, R, hs, hc, hh, hF, h⟩
end
end Go.Al
