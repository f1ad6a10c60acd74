/- The little logic, fourth part: the operations that only read, one function for all of them, and that it tells what the model does. -/
import Derived.Test.YtcfapbmjaiipjaaDoorAlC
set_option linter.unusedSimpArgs false
set_option linter.unusedVariables false
namespace Go.Al

/-- binary operations on two numbers -/
def aint (op : BinOp) (k : IntKind) (a : Int) (k' : IntKind) (b : Int) : Option AV :=
  match op with
  | .shl => if 0 ≤ b then some (.int k (k.wrap (a * 2 ^ (min b.toNat k.bits)))) else none
  | .shr => if 0 ≤ b then some (.int k (a.fdiv (2 ^ (min b.toNat k.bits)))) else none
  | .add => if k = k' then some (.int k (k.wrap (a + b))) else none
  | .sub => if k = k' then some (.int k (k.wrap (a - b))) else none
  | .mul => if k = k' then some (.int k (k.wrap (a * b))) else none
  | .quo => if k = k' ∧ b ≠ 0 then some (.int k (k.wrap (a.tdiv b))) else none
  | .rem => if k = k' ∧ b ≠ 0 then some (.int k (a.tmod b)) else none
  | .and => if k = k' then some (.int k (k.wrap (BitVec.ofInt k.bits a &&& BitVec.ofInt k.bits b).toNat)) else none
  | .or => if k = k' then some (.int k (k.wrap (BitVec.ofInt k.bits a ||| BitVec.ofInt k.bits b).toNat)) else none
  | .xor => if k = k' then some (.int k (k.wrap (BitVec.ofInt k.bits a ^^^ BitVec.ofInt k.bits b).toNat)) else none
  | .andNot => if k = k' then some (.int k (k.wrap (BitVec.ofInt k.bits a &&& ~~~ BitVec.ofInt k.bits b).toNat)) else none
  | .eql => if k = k' then some (.bool (decide (a = b))) else none
  | .neq => if k = k' then some (.bool (!decide (a = b))) else none
  | .lss => if k = k' then some (.bool (decide (a < b))) else none
  | .leq => if k = k' then some (.bool (decide (a ≤ b))) else none
  | .gtr => if k = k' then some (.bool (decide (b < a))) else none
  | .geq => if k = k' then some (.bool (decide (b ≤ a))) else none
theorem bool_beq (a b : Bool) : (a == b) = decide (a = b) := by cases a <;> cases b <;> rfl
theorem int_beq (a b : Int) : (a == b) = decide (a = b) := by rw [Bool.eq_iff_iff]; simp
theorem int_bne (a b : Int) : (a != b) = !decide (a = b) := by rw [Bool.eq_iff_iff]; simp
theorem aint_sound {op : BinOp} {k k' : IntKind} {a b : Int} {v : AV} (h : aint op k a k' b = some v) (P : Program) (S : Seal) (w : World) (t : TypeId) :
    ∃ v', (binOp op t (.int k a) (.int k' b)).run P w = .ok v' w ∧ VRel S w v v' := by
  unfold aint at h
  cases op <;> simp only [Option.ite_none_right_eq_some] at h <;> obtain ⟨h1, h2⟩ := h <;> cases h2 <;> first
    | (obtain ⟨rfl, h0⟩ := h1
       simp [binOp, Op.intDiv, h0, VRel])
    | (subst h1
       simp [binOp, Op.intArith, Op.intBits, Op.intCmp, int_beq, int_bne, VRel])
    | (have h0 : ¬ b < 0 := by omega
       simp [binOp, Op.shift, h0, VRel])

/-- binary operations on two texts -/
def astr (op : BinOp) (a b : List UInt8) : Option AV :=
  match op with
  | .add => if a.length + b.length ≤ maxLen then some (.str (a ++ b)) else none
  | .eql => some (.bool (decide (a = b)))
  | .neq => some (.bool (!decide (a = b)))
  | .lss => some (.bool (Op.bytesLess a b))
  | .leq => some (.bool (Op.bytesLess a b || decide (a = b)))
  | .gtr => some (.bool (!(Op.bytesLess a b || decide (a = b))))
  | .geq => some (.bool (!Op.bytesLess a b))
  | _ => none
theorem bytes_beq (a b : List UInt8) : (a == b) = decide (a = b) := by rw [Bool.eq_iff_iff]; simp
theorem toList_mk (a : List UInt8) : ByteArray.toList ⟨a.toArray⟩ = a := by rw [ByteArray.toList_eq]
theorem astr_sound {op : BinOp} {a b : List UInt8} {v : AV} (h : astr op a b = some v) (P : Program) (S : Seal) (w : World) (t : TypeId) :
    ∃ v', (binOp op t (.string ⟨a.toArray⟩) (.string ⟨b.toArray⟩)).run P w = .ok v' w ∧ VRel S w v v' := by
  unfold astr at h
  cases op <;> first | (cases h; done) | skip
  case add =>
    simp only [Option.ite_none_right_eq_some] at h
    obtain ⟨h1, h2⟩ := h
    cases h2
    have hm : ¬ ((a.length : Int) + (b.length : Int) > IntKind.i64.max) := by
      simp only [maxLen] at h1
      simp [IntKind.max, IntKind.signed, IntKind.bits] at *
      omega
    refine ⟨.string ⟨(a ++ b).toArray⟩, ?_, by simp only [VRel]⟩
    simp only [binOp, Op.stringOp]
    have hs : ((ByteArray.size ⟨a.toArray⟩ + ByteArray.size ⟨b.toArray⟩ : Nat) : Int) = (a.length : Int) + (b.length : Int) := by
      simp [ByteArray.size]
    rw [hs, if_neg hm]
    simp only [Sem.run_pure]
    congr 2
  all_goals
    cases h
    simp [binOp, Op.stringOp, bytes_beq, VRel]

/-- Two structs whose cells are numbers, truth values and texts: alike? -/
def acells : List TK → List AV → List AV → Option Bool
  | [], [], [] => some true
  | .int _ :: ks, .int k a :: xs, .int k' b :: ys => if k = k' then (acells ks xs ys).map (decide (a = b) && ·) else none
  | .bool :: ks, .bool a :: xs, .bool b :: ys => (acells ks xs ys).map (decide (a = b) && ·)
  | .str :: ks, .str a :: xs, .str b :: ys => (acells ks xs ys).map (decide (a = b) && ·)
  | _, _, _ => none
def fieldKind (P : Program) (t : TypeId) : Option TK :=
  match P.underlying t with
  | some (.int k) => some (.int k)
  | some .bool => some .bool
  | some .string => some .str
  | _ => none
def kindsOf (P : Program) : Nat → List Field → Option (List TK)
  | _, [] => some []
  | i, f :: fs => if f.name ≠ "_" ∧ f.offset = i then (fieldKind P f.type).bind fun k => (kindsOf P (i + 1) fs).map (k :: ·) else none
/-- The types of whose values that may be asked: structs of such fields, one cell each. -/
def eqKinds (P : Program) (t : TypeId) : Option (List TK) :=
  match P.underlying t with
  | some (.struct fs) => if P.stoodInHeld t = false ∧ P.eqGuardType P.depth t = false then kindsOf P 0 fs.toList else none
  | _ => none

theorem fieldKind_part {P : Program} {t : TypeId} {k : TK} (h : fieldKind P t = some k) (w : World) (cs : Array Value) (i : Nat) (v : Value) (hv : cs[i]? = some v) :
    (part t cs i).run P w = .ok v w := by
  unfold fieldKind at h
  split at h <;> first | (cases h; done) | (rename_i hu; simp [part, isAgg, run_underlying hu, hv])
theorem acells_sound {P : Program} {S : Seal} {w w1 : World} (d : Nat) (xs ys : Array Value) : ∀ (fs : List Field) (i : Nat) (ks : List TK) (cs ds : List AV) (r : Bool),
    kindsOf P i fs = some ks → LRel S w cs (xs.toList.drop i) → LRel S w ds (ys.toList.drop i) → acells ks cs ds = some r →
    (Op.eqFields (d + 1) xs ys fs).run P w1 = .ok r w1
  | [], i, ks, cs, ds, r, hk, h1, h2, hr => by
    simp only [kindsOf, Option.some.injEq] at hk
    subst hk
    cases cs <;> cases ds <;> simp [acells] at hr
    subst hr
    simp [Op.eqFields]
  | f :: fs, i, ks, cs, ds, r, hk, h1, h2, hr => by
    simp only [kindsOf, Option.ite_none_right_eq_some, Option.bind_eq_some_iff, Option.map_eq_some_iff] at hk
    obtain ⟨⟨hn, ho⟩, k, hk, ks', hks, rfl⟩ := hk
    cases cs with
    | nil => cases k <;> simp [acells] at hr
    | cons c cs =>
      cases ds with
      | nil => cases k <;> cases c <;> simp [acells] at hr
      | cons e ds =>
        simp only [LRel] at h1 h2
        obtain ⟨u, us, hu, hcu, h1⟩ := h1
        obtain ⟨x, ts, hx, hex, h2⟩ := h2
        have gu : xs[i]? = some u := by
          have : (xs.toList.drop i)[0]? = some u := by rw [hu]; rfl
          simpa [List.getElem?_drop] using this
        have gx : ys[i]? = some x := by
          have : (ys.toList.drop i)[0]? = some x := by rw [hx]; rfl
          simpa [List.getElem?_drop] using this
        have du : us = xs.toList.drop (i + 1) := by
          have := congrArg List.tail hu; simpa [List.tail_drop] using this.symm
        have dx : ts = ys.toList.drop (i + 1) := by
          have := congrArg List.tail hx; simpa [List.tail_drop] using this.symm
        subst du
        subst dx
        have step : ∀ (b : Bool) (r' : Bool), acells ks' cs ds = some r' → r = (b && r') → (Op.equalIn (d + 1) f.type u x).run P w1 = .ok b w1 →
            (Op.eqFields (d + 1) xs ys (f :: fs)).run P w1 = .ok r w1 := by
          intro b r' hr' hb he
          have ih := acells_sound (w1 := w1) d xs ys fs (i + 1) ks' cs ds r' hks h1 h2 hr'
          simp only [Op.eqFields, ne_eq, hn, not_false_eq_true, if_true, Sem.run_bind, ho, fieldKind_part hk w1 xs i u gu, fieldKind_part hk w1 ys i x gx, Result.andThen_ok, he]
          cases b
          · simp [hb]
          · simp [hb, ih]
        unfold fieldKind at hk
        split at hk <;> first | (cases hk; done) | skip
        · rename_i j hu2
          cases hk
          cases c <;> cases e <;> first | (simp [acells] at hr; done) | skip
          simp only [acells] at hr
          split at hr <;> try (cases hr; done)
          rename_i hkk
          subst hkk
          rw [Option.map_eq_some_iff] at hr
          obtain ⟨r', hr', rfl⟩ := hr
          simp only [VRel] at hcu hex
          subst hcu; subst hex
          exact step _ r' hr' rfl (by simp [Op.equalIn, run_underlying hu2, int_beq])
        · rename_i hu2
          cases hk
          cases c <;> cases e <;> first | (simp [acells] at hr; done) | skip
          simp only [acells] at hr
          rw [Option.map_eq_some_iff] at hr
          obtain ⟨r', hr', rfl⟩ := hr
          simp only [VRel] at hcu hex
          subst hcu; subst hex
          exact step _ r' hr' rfl (by simp only [Op.equalIn, Sem.run_bind, run_underlying hu2, Result.andThen_ok, Sem.run_pure, bool_beq])
        · rename_i hu2
          cases hk
          cases c <;> cases e <;> first | (simp [acells] at hr; done) | skip
          simp only [acells] at hr
          rw [Option.map_eq_some_iff] at hr
          obtain ⟨r', hr', rfl⟩ := hr
          simp only [VRel] at hcu hex
          subst hcu; subst hex
          exact step _ r' hr' rfl (by rw [run_equalIn_string _ _ _ _ _ hu2, toList_mk, toList_mk, bytes_beq])

/-- '==' and '!=' between two such structs -/
theorem aeql_sound {P : Program} {t : TypeId} {ks : List TK} (hk : eqKinds P t = some ks) {S : Seal} {w : World} {cs ds : List AV} {xs ys : List Value} {r : Bool}
    (h1 : LRel S w cs xs) (h2 : LRel S w ds ys) (hr : acells ks cs ds = some r) (x y : Operand) :
    (eqGuard .eql t x y (.agg xs.toArray) (.agg ys.toArray)).run P w = .ok () w ∧ (eqGuard .neq t x y (.agg xs.toArray) (.agg ys.toArray)).run P w = .ok () w ∧
    (binOp .eql t (.agg xs.toArray) (.agg ys.toArray)).run P w = .ok (.bool r) w ∧ (binOp .neq t (.agg xs.toArray) (.agg ys.toArray)).run P w = .ok (.bool (!r)) w := by
  unfold eqKinds at hk
  split at hk
  · rename_i fs hu
    simp only [Option.ite_none_right_eq_some] at hk
    obtain ⟨⟨hs, hg⟩, hk⟩ := hk
    have hf : P.fieldsOf t = fs := by simp [Program.fieldsOf, hu]
    have he : (Op.equal t (.agg xs.toArray) (.agg ys.toArray)).run P w = .ok r w := by
      unfold Op.equal Op.maxDepth
      rw [run_equalIn_struct w 9999 t xs.toArray ys.toArray (by rw [hf]; exact hu) hs, hf]
      exact acells_sound 9998 _ _ fs.toList 0 ks cs ds r hk (by simpa using h1) (by simpa using h2) hr
    refine ⟨?_, ?_, ?_, ?_⟩
    · simp [eqGuard, hg]
    · simp [eqGuard, hg]
    · simp [binOp, he]
    · simp [binOp, he]
  · cases hk
end Go.Al
