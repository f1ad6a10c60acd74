/- The little logic, sixth part: what the function of the operations that only read tells is what the model does. -/
import Derived.Test.YtcfapbmjaiipjaaDoorAlE
set_option linter.unusedSimpArgs false
set_option linter.unusedVariables false
namespace Go.Al
section
variable {E : Env} {γ : Start} {S : Seal} {H : Hp} {w : World} {fr : Fr} {a : Act}

theorem rd_part {P : Program} {t : TypeId} {ti : TI} (ht : tinfo P t = some ti) {cs : List AV} {vs : List Value} (hl : LRel S w cs vs) {j : Nat} {v : AV} (h : rd ti cs j = some v) (w1 : World) :
    ∃ v', (part t vs.toArray j).run P w1 = .ok v' w1 ∧ VRel S w v v' := by
  unfold rd at h
  simp only [part, Sem.run_bind, run_isAgg ht, Result.andThen_ok]
  split at h
  · rename_i ha
    split at h
    · obtain rfl := (Option.some.inj h).symm
      simp only [ha, if_true, Sem.run_bind, run_sizeOf ht, Result.andThen_ok, Sem.run_pure]
      refine ⟨_, rfl, ?_⟩
      simp only [VRel]
      refine ⟨(vs.drop j).take ti.size, ?_, (hl.drop j).take ti.size⟩
      simp
    · cases h
  · rename_i ha
    obtain ⟨u, hu, hv⟩ := hl.get j h
    simp [ha, hu, hv]

theorem abnd_sound {isS : Bool} {n cap : Nat} {lo hi : Option AV} {lo' hi' : Option Value} {p : Nat × Nat} (h : abnd n lo hi = some p) (hc : n ≤ cap)
    (hlo : ∀ x, lo = some x → ∃ y, lo' = some y ∧ VRel S w x y) (hlo0 : lo = none → lo' = none) (hhi : ∀ x, hi = some x → ∃ y, hi' = some y ∧ VRel S w x y) (hhi0 : hi = none → hi' = none) (P : Program) :
    (Instr.sliceBounds isS n cap lo' hi' none).run P w = .ok (p.1, p.2, cap) w ∧ p.1 ≤ p.2 ∧ p.2 ≤ n := by
  have bound : ∀ (k : IntKind) (i : Int) (y : Nat) (code : BoundsCode), 0 ≤ i → i ≤ y → (Instr.sliceBound (.int k i) y code).run P w = .ok i.toNat w := fun k i y code h0 h1 => by
    simp [Instr.sliceBound, asIntOf, h0, h1]
  simp only [abnd, Option.bind_eq_some_iff, Option.map_eq_some_iff] at h
  obtain ⟨hh, heq, ll, heq2, rfl⟩ := h
  have eh : hh ≤ n ∧ ((hi' = none ∧ hh = n) ∨ ∃ v, hi' = some v ∧ ∀ code, (Instr.sliceBound v cap code).run P w = .ok hh w) := by
    cases hi with
    | none => simp only [ahi, Option.some.injEq] at heq; subst heq; exact ⟨Nat.le_refl _, .inl ⟨hhi0 rfl, rfl⟩⟩
    | some x =>
      obtain ⟨y, e1, e2⟩ := hhi x rfl
      cases x <;> simp only [ahi] at heq <;> try (cases heq; done)
      simp only [VRel] at e2
      subst e2
      split at heq <;> cases heq
      rename_i hb
      exact ⟨by omega, .inr ⟨_, e1, fun code => bound _ _ _ _ hb.1 (by omega)⟩⟩
  have el : ll ≤ hh ∧ ((lo' = none ∧ ll = 0) ∨ ∃ v, lo' = some v ∧ ∀ code, (Instr.sliceBound v hh code).run P w = .ok ll w) := by
    cases lo with
    | none => simp only [alo, Option.some.injEq] at heq2; subst heq2; exact ⟨Nat.zero_le _, .inl ⟨hlo0 rfl, rfl⟩⟩
    | some x =>
      obtain ⟨y, e1, e2⟩ := hlo x rfl
      cases x <;> simp only [alo] at heq2 <;> try (cases heq2; done)
      simp only [VRel] at e2
      subst e2
      split at heq2 <;> cases heq2
      rename_i hb
      exact ⟨by omega, .inr ⟨_, e1, fun code => bound _ _ _ _ hb.1 (by omega)⟩⟩
  refine ⟨?_, el.1, eh.1⟩
  unfold Instr.sliceBounds
  obtain ⟨_, eh⟩ := eh
  obtain ⟨_, el⟩ := el
  rcases eh with ⟨rfl, rfl⟩ | ⟨v, rfl, eh⟩ <;> rcases el with ⟨rfl, rfl⟩ | ⟨u, rfl, el⟩ <;> simp [*]

theorem eqGuard_int (P : Program) (w : World) (op : BinOp) (t : TypeId) (x y : Operand) (k k' : IntKind) (a b : Int) : (eqGuard op t x y (.int k a) (.int k' b)).run P w = .ok () w := by
  unfold eqGuard; split <;> simp
theorem eqGuard_str (P : Program) (w : World) (op : BinOp) (t : TypeId) (x y : Operand) (a b : ByteArray) : (eqGuard op t x y (.string a) (.string b)).run P w = .ok () w := by
  unfold eqGuard; split <;> simp
theorem eqGuard_bool (P : Program) (w : World) (op : BinOp) (t : TypeId) (x y : Operand) (a b : Bool) : (eqGuard op t x y (.bool a) (.bool b)).run P w = .ok () w := by
  unfold eqGuard; split <;> simp
theorem equal_bool {P : Program} (w : World) {t : TypeId} (h : P.underlying t = some .bool) (a b : Bool) : (Op.equal t (.bool a) (.bool b)).run P w = .ok (decide (a = b)) w := by
  unfold Op.equal Op.maxDepth
  rw [run_equalIn_bool' w 9999 t a b h, bool_beq]
theorem tk_bool {d : TypeDesc} (h : tkOf d = .bool) : d = .bool := by
  cases d <;> first | rfl | (simp [tkOf] at h)
/-- What is asked of an operation that only reads. -/
def Tells (E : Env) (S : Seal) (w : World) (a : Act) (o : Op) (v : AV) : Prop :=
  ∀ dst ty pos af g, ∃ v', (execOp a.eval ⟨dst, o, ty, pos, af, g⟩).run E.P w = .ok (.value v') w ∧ VRel S w v v'

theorem tells_load (hst : St E γ S H w) (hf : FRel S w fr a) {t : TypeId} {x : Operand} {v : AV} (h : aq E H fr (.load t x) = some v) : Tells E S w a (.load t x) v := by
  intro dst ty pos af g
  simp only [aq, Option.bind_eq_some_iff] at h
  obtain ⟨ti, ht, h⟩ := h
  obtain ⟨v', h1, h2⟩ := aload_sound hst ht (ev_rel hst hf x) h
  exact ⟨v', by simp [execOp, h1], h2⟩

theorem tells_binOp (hst : St E γ S H w) (hf : FRel S w fr a) {op : BinOp} {t u : TypeId} {x y : Operand} {v : AV} (h : aq E H fr (.binOp op t x y u) = some v) : Tells E S w a (.binOp op t x y u) v := by
  intro dst ty pos af g
  have hx := ev_rel hst hf x
  have hy := ev_rel hst hf y
  simp only [aq] at h
  split at h
  · rename_i e1 e2
    rw [e1] at hx; rw [e2] at hy
    simp only [VRel] at hx hy
    obtain ⟨v', h1, h2⟩ := aint_sound h E.P S w t
    refine ⟨v', ?_, h2⟩
    simp only [execOp, hx, hy, Sem.run_bind, Sem.run_pure]
    simp [eqGuard_int, h1]
  · rename_i e1 e2
    rw [e1] at hx; rw [e2] at hy
    simp only [VRel] at hx hy
    obtain ⟨v', h1, h2⟩ := astr_sound h E.P S w t
    refine ⟨v', ?_, h2⟩
    simp only [execOp, hx, hy, Sem.run_bind, Sem.run_pure]
    simp [eqGuard_str, h1]
  · rename_i cs ds e1 e2
    rw [e1] at hx; rw [e2] at hy
    simp only [VRel] at hx hy
    obtain ⟨xs, e3, hx⟩ := hx
    obtain ⟨ys, e4, hy⟩ := hy
    split at h <;> first | (cases h; done) | skip
    all_goals
      rename_i r hr
      cases h
      rw [Option.bind_eq_some_iff] at hr
      obtain ⟨ks, hk, hr⟩ := hr
      obtain ⟨g1, g2, g3, g4⟩ := aeql_sound hk hx hy hr x y
      refine ⟨.bool _, ?_, by simp only [VRel]; rfl⟩
      simp only [execOp, e3, e4, Sem.run_bind, g1, g2, g3, g4, Result.andThen_ok, Sem.run_pure]
  · rename_i p q e1 e2
    rw [e1] at hx; rw [e2] at hy
    simp only [VRel] at hx hy
    split at h <;> first | (cases h; done) | skip
    all_goals
      rename_i ti
      cases h
      obtain ⟨d, i, z, hu, _, _, e⟩ := tinfo_spec ti
      have hd : d = .bool := tk_bool (congrArg TI.k e).symm
      subst hd
      refine ⟨.bool _, ?_, by simp only [VRel]; rfl⟩
      simp [execOp, hx, hy, eqGuard_bool, binOp, equal_bool w hu]
  · cases h

/-- the underlying type that a kind tells -/
theorem tinfo_u {P : Program} {t : TypeId} {ti : TI} (h : tinfo P t = some ti) : ∃ d, P.underlying t = some d ∧ tkOf d = ti.k := by
  obtain ⟨d, i, z, hu, _, _, e⟩ := tinfo_spec h
  exact ⟨d, hu, (congrArg TI.k e).symm⟩
theorem u_int {P : Program} {t : TypeId} {k : IntKind} {a b : Nat} {z : AV} (h : tinfo P t = some ⟨.int k, a, b, z⟩) : P.underlying t = some (.int k) := by
  obtain ⟨d, hu, e⟩ := tinfo_u h
  cases d <;> simp [tkOf] at e
  subst e; exact hu
theorem u_str {P : Program} {t : TypeId} {a b : Nat} {z : AV} (h : tinfo P t = some ⟨.str, a, b, z⟩) : P.underlying t = some .string := by
  obtain ⟨d, hu, e⟩ := tinfo_u h
  cases d <;> simp [tkOf] at e
  exact hu
theorem u_slice {P : Program} {t e : TypeId} {a b : Nat} {z : AV} (h : tinfo P t = some ⟨.slice e, a, b, z⟩) : P.underlying t = some (.slice e) := by
  obtain ⟨d, hu, e⟩ := tinfo_u h
  cases d <;> simp [tkOf] at e
  subst e; exact hu
theorem u_array {P : Program} {t e : TypeId} {n a b : Nat} {z : AV} (h : tinfo P t = some ⟨.array n e, a, b, z⟩) : P.underlying t = some (.array n e) := by
  obtain ⟨d, hu, e⟩ := tinfo_u h
  cases d <;> simp [tkOf] at e
  obtain ⟨rfl, rfl⟩ := e; exact hu
theorem u_map {P : Program} {t k e : TypeId} {a b : Nat} {z : AV} (h : tinfo P t = some ⟨.map k e, a, b, z⟩) : P.underlying t = some (.map k e) := by
  obtain ⟨d, hu, e⟩ := tinfo_u h
  cases d <;> simp [tkOf] at e
  obtain ⟨rfl, rfl⟩ := e; exact hu
theorem u_struct {P : Program} {t : TypeId} {fs : List (TypeId × Nat)} {a b : Nat} {z : AV} (h : tinfo P t = some ⟨.strct fs, a, b, z⟩) :
    ∃ gs : Array Field, P.underlying t = some (.struct gs) ∧ fs = gs.toList.map fun f => (f.type, f.offset) := by
  obtain ⟨d, hu, e⟩ := tinfo_u h
  cases d <;> simp [tkOf] at e
  exact ⟨_, hu, by simpa using e.symm⟩
theorem u_field {P : Program} {t : TypeId} {fs : List (TypeId × Nat)} {a b : Nat} {z : AV} (h : tinfo P t = some ⟨.strct fs, a, b, z⟩) {f : Nat} {p : TypeId × Nat} (hf : fs[f]? = some p) :
    ∃ (gs : Array Field) (g : Field), P.underlying t = some (.struct gs) ∧ gs[f]? = some g ∧ g.type = p.1 ∧ g.offset = p.2 := by
  obtain ⟨gs, hu, rfl⟩ := u_struct h
  rw [List.getElem?_map, Option.map_eq_some_iff] at hf
  obtain ⟨g, hg, rfl⟩ := hf
  exact ⟨gs, g, hu, by simpa using hg, rfl, rfl⟩

theorem tells_unOp (hst : St E γ S H w) (hf : FRel S w fr a) {op : UnOp} {t : TypeId} {x : Operand} {v : AV} (h : aq E H fr (.unOp op t x) = some v) : Tells E S w a (.unOp op t x) v := by
  intro dst ty pos af g
  have hx := ev_rel hst hf x
  simp only [aq] at h
  split at h <;> first | (cases h; done) | skip
  all_goals
    rename_i e
    cases h
    rw [e] at hx
    simp only [VRel] at hx
    simp [execOp, hx, Op.unary, Op.intArith, VRel]
theorem tells_convert (hst : St E γ S H w) (hf : FRel S w fr a) {s d : TypeId} {x : Operand} {v : AV} (h : aq E H fr (.convert s d x) = some v) : Tells E S w a (.convert s d x) v := by
  intro dst ty pos af g
  have hx := ev_rel hst hf x
  simp only [aq] at h
  split at h <;> first | (cases h; done) | skip
  · rename_i hs hd e
    cases h
    rw [e] at hx
    simp only [VRel] at hx
    obtain ⟨d1, hu1, _⟩ := tinfo_u hs
    refine ⟨.int _ _, ?_, by simp only [VRel]; rfl⟩
    simp [execOp, convert, run_underlying hu1, run_underlying (u_int hd), hx, Conv.intToInt]
  · rename_i hs hd e
    cases h
    rw [e] at hx
    simp only [VRel] at hx
    obtain ⟨d1, hu1, _⟩ := tinfo_u hs
    refine ⟨.string _, ?_, by simp only [VRel]; rfl⟩
    simp [execOp, convert, run_underlying hu1, run_underlying (u_str hd), hx]
theorem tells_extract (hst : St E γ S H w) (hf : FRel S w fr a) {x : Operand} {i : Nat} {v : AV} (h : aq E H fr (.extract x i) = some v) : Tells E S w a (.extract x i) v := by
  intro dst ty pos af g
  have hx := ev_rel hst hf x
  simp only [aq] at h
  split at h <;> first | (cases h; done) | skip
  rename_i vs e
  rw [e] at hx
  simp only [VRel] at hx
  obtain ⟨us, e2, hl⟩ := hx
  obtain ⟨u, hu, hv⟩ := hl.get i h
  exact ⟨u, by simp [execOp, e2, Instr.extract, hu], hv⟩
theorem tells_nilCheck (hst : St E γ S H w) (hf : FRel S w fr a) {x : Operand} {v : AV} (h : aq E H fr (.nilCheck x) = some v) : Tells E S w a (.nilCheck x) v := by
  intro dst ty pos af g
  have hx := ev_rel hst hf x
  simp only [aq, Option.ite_none_right_eq_some] at h
  obtain ⟨h1, h2⟩ := h
  cases h2
  refine ⟨a.eval x, ?_, hx⟩
  cases e : ev E.G fr x <;> rw [e] at h1 hx <;> simp only [isPtr] at h1 <;> try (cases h1; done)
  · simp only [VRel] at hx; simp [execOp, hx]
  · simp only [VRel] at hx; obtain ⟨b, off, e2, _⟩ := hx; simp [execOp, e2]
theorem tells_makeInterface (hst : St E γ S H w) (hf : FRel S w fr a) {t : TypeId} {x : Operand} {v : AV} (h : aq E H fr (.makeInterface t x) = some v) : Tells E S w a (.makeInterface t x) v := by
  intro dst ty pos af g
  have hx := ev_rel hst hf x
  simp only [aq] at h
  split at h <;> first | (cases h; done) | skip
  rename_i ti hne hti
  cases h
  obtain ⟨d, hu, e⟩ := tinfo_u hti
  refine ⟨.iface t (a.eval x), ?_, by simp only [VRel]; exact ⟨_, rfl, hx⟩⟩
  cases d <;> simp [execOp, Instr.makeInterface, run_underlying hu]
  obtain ⟨k, s1, b1, z1⟩ := ti
  simp only [tkOf] at e
  subst e
  exact hne _ _ _ rfl
theorem LRel.map (hst : St E γ S H w) (hf : FRel S w fr a) : ∀ xs : List Operand, LRel S w (xs.map (ev E.G fr)) (xs.map a.eval)
  | [] => by simp only [List.map_nil, LRel]
  | x :: xs => by simp only [List.map_cons, LRel]; exact ⟨_, _, rfl, ev_rel hst hf x, LRel.map hst hf xs⟩
theorem tells_makeFunc (hst : St E γ S H w) (hf : FRel S w fr a) {f : Fn} {xs ys : Array Operand} {v : AV} (h : aq E H fr (.makeFunc f xs ys) = some v) : Tells E S w a (.makeFunc f xs ys) v := by
  intro dst ty pos af g
  simp only [aq, Option.some.injEq] at h
  subst h
  refine ⟨.func f (xs.toList.map a.eval).toArray (ys.toList.map a.eval).toArray, ?_, ?_⟩
  · simp only [execOp, Instr.makeFunc, Sem.run_bind, Sem.run_pure, Result.andThen_ok, ← Array.toList_map, Array.toArray_toList]
  · simp only [VRel]; exact ⟨_, _, rfl, LRel.map hst hf _, LRel.map hst hf _⟩
theorem tells_field (hst : St E γ S H w) (hf : FRel S w fr a) {s : TypeId} {x : Operand} {f : Nat} {v : AV} (h : aq E H fr (.field s x f) = some v) : Tells E S w a (.field s x f) v := by
  intro dst ty pos af g
  have hx := ev_rel hst hf x
  simp only [aq] at h
  split at h <;> first | (cases h; done) | skip
  rename_i hs e
  rw [e] at hx
  simp only [VRel] at hx
  obtain ⟨us, e2, hl⟩ := hx
  split at h <;> first | (cases h; done) | skip
  rename_i t off hfs
  rw [Option.bind_eq_some_iff] at h
  obtain ⟨ti, ht, h⟩ := h
  obtain ⟨gs, gf, hu, hg, e3, e4⟩ := u_field hs hfs
  simp only at e3 e4
  obtain ⟨v', h1, h2⟩ := rd_part ht hl h w
  exact ⟨v', by simp [execOp, Instr.field, run_underlying hu, hg, e2, asAgg, e3, e4, h1], h2⟩
theorem tells_fieldAddr (hst : St E γ S H w) (hf : FRel S w fr a) {s : TypeId} {x : Operand} {f : Nat} {v : AV} (h : aq E H fr (.fieldAddr s x f) = some v) : Tells E S w a (.fieldAddr s x f) v := by
  intro dst ty pos af g
  have hx := ev_rel hst hf x
  simp only [aq] at h
  split at h <;> first | (cases h; done) | skip
  rename_i hs
  split at h <;> first | (cases h; done) | skip
  rename_i t off hfs
  split at h <;> first | (cases h; done) | skip
  rename_i ti ht
  split at h <;> first | (cases h; done) | skip
  rename_i hsz
  obtain ⟨gs, gf, hu, hg, e3, e4⟩ := u_field hs hfs
  simp only at e3 e4
  split at h <;> first | (cases h; done) | skip
  · rename_i e
    cases h
    rw [e] at hx
    simp only [VRel] at hx
    refine ⟨_, ?_, by simp only [VRel]; rfl⟩
    simp [execOp, Instr.fieldAt, run_underlying hu, hg, hx, Instr.sureAddr, fieldPlace, e3, run_sizeOf ht, hsz, e4, Addr.add_lit, Nat.add_assoc]
  · rename_i e
    cases h
    rw [e] at hx
    simp only [VRel] at hx
    obtain ⟨b, o, e5, h1, h2⟩ := hx
    refine ⟨_, ?_, by simp only [VRel]; exact ⟨b, o, rfl, h1, h2⟩⟩
    simp [execOp, Instr.fieldAt, run_underlying hu, hg, e5, Instr.sureAddr, fieldPlace, e3, run_sizeOf ht, hsz, e4, Addr.add_lit, Nat.add_assoc]
end
end Go.Al
