/- The little logic, seventh part: the rest of the operations that only read; all of them. -/
import Derived.Test.YtcfapbmjaiipjaaDoorAlF
set_option linter.unusedSimpArgs false
set_option linter.unusedVariables false
namespace Go.Al
section
variable {E : Env} {γ : Start} {S : Seal} {H : Hp} {w : World} {fr : Fr} {a : Act}

theorem size_mk (s : List UInt8) : ByteArray.size ⟨s.toArray⟩ = s.length := by simp [ByteArray.size]
theorem opt_rel (hst : St E γ S H w) (hf : FRel S w fr a) (o : Option Operand) : (∀ x, o.map (ev E.G fr) = some x → ∃ y, o.map a.eval = some y ∧ VRel S w x y) ∧ (o.map (ev E.G fr) = none → o.map a.eval = none) := by
  cases o with
  | none => simp
  | some x => exact ⟨fun y h => by simp at h; subst h; exact ⟨_, rfl, ev_rel hst hf x⟩, fun h => by simp at h⟩
theorem tells_slice (hst : St E γ S H w) (hf : FRel S w fr a) {t : TypeId} {x : Operand} {lo hi : Option Operand} {v : AV} (h : aq E H fr (.slice t x lo hi none) = some v) : Tells E S w a (.slice t x lo hi none) v := by
  intro dst ty pos af g
  have hx := ev_rel hst hf x
  have hlo := opt_rel hst hf lo
  have hhi := opt_rel hst hf hi
  simp only [aq] at h
  split at h <;> first | (cases h; done) | skip
  · rename_i s ht e
    rw [e] at hx
    simp only [VRel] at hx
    rw [Option.map_eq_some_iff] at h
    obtain ⟨p, hp, rfl⟩ := h
    obtain ⟨h1, h2, h3⟩ := abnd_sound (isS := false) (w := w) (S := S) (cap := s.length) hp (Nat.le_refl _) hlo.1 hlo.2 hhi.1 hhi.2 E.P
    refine ⟨.string _, ?_, by simp only [VRel]; rfl⟩
    have hsz : ByteArray.size ⟨s.toArray⟩ = s.length := by simp [ByteArray.size]
    have hu := u_str ht
    simp only [execOp, Instr.sliceAt, Sem.run_bind, run_underlying hu, Result.andThen_ok, Instr.slice, hx, Option.map_none, Option.isSome_none, Bool.false_eq_true, if_false, hsz, h1, Sem.run_pure]
    congr 3
    apply ByteArray.ext
    simp [ByteArray.data_extract]
  · rename_i sz l ht e
    split at h <;> first | (cases h; done) | skip
    rename_i te hte
    split at h <;> first | (cases h; done) | skip
    rename_i hsz
    rw [e] at hx
    simp only [VRel] at hx
    obtain ⟨oa, cap, e2, hc1, hc2, hr⟩ := hx
    rw [Option.map_eq_some_iff] at h
    obtain ⟨p, hp, rfl⟩ := h
    obtain ⟨h1, h2, h3⟩ := abnd_sound (isS := true) (w := w) (S := S) hp hc1 hlo.1 hlo.2 hhi.1 hhi.2 E.P
    have hu := u_slice ht
    refine ⟨.slice (if cap = p.1 then oa else oa.map (·.add (p.1 * sz))) (p.2 - p.1) (cap - p.1), ?_, ?_⟩
    · simp only [execOp, Instr.sliceAt, Sem.run_bind, run_underlying hu, Result.andThen_ok, Instr.slice, e2, Option.map_none, h1, run_sizeOf hte, hsz, Sem.run_pure]
    · simp only [VRel]
      have hlen : ((l.drop p.1).take (p.2 - p.1)).length = p.2 - p.1 := by rw [List.length_take, List.length_drop]; omega
      refine ⟨_, _, by rw [hlen], by omega, by omega, ?_⟩
      rcases hr with rfl | ⟨b, off, rfl, hb, hr⟩
      · simp
      · by_cases hp0 : p.2 - p.1 = 0
        · left; rw [hp0]; simp
        · right
          refine ⟨b, off + p.1 * sz, ?_, hb, (hr.drop p.1).take _⟩
          rw [if_neg (by omega)]
          simp [Addr.add_lit]

theorem tells_indexAddr (hst : St E γ S H w) (hf : FRel S w fr a) {t : TypeId} {x ix : Operand} {v : AV} (h : aq E H fr (.indexAddr t x ix) = some v) : Tells E S w a (.indexAddr t x ix) v := by
  intro dst ty pos af g
  have hx := ev_rel hst hf x
  have hi := ev_rel hst hf ix
  simp only [aq] at h
  split at h <;> first | (cases h; done) | skip
  · rename_i ht ei
    rw [ei] at hi
    simp only [VRel] at hi
    have hu := u_slice ht
    split at h <;> first | (cases h; done) | skip
    · rename_i te sz l hte e
      rw [e] at hx
      simp only [VRel] at hx
      obtain ⟨oa, cap, e2, hc1, hc2, hr⟩ := hx
      split at h <;> first | (cases h; done) | skip
      rename_i hc
      rw [Option.map_eq_some_iff] at h
      obtain ⟨row, hrow, rfl⟩ := h
      have hlt := (List.getElem?_eq_some_iff.1 hrow).1
      rcases hr with rfl | ⟨b, off, rfl, hb, hr⟩
      · simp at hrow
      · obtain ⟨_, hr2⟩ := RowsRel.get _ hr hrow
        refine ⟨_, ?_, by simp only [VRel]; exact ⟨b, _, rfl, hb, hr2⟩⟩
        simp only [execOp, Instr.indexAt, hi, asIntOf, Sem.run_bind, Sem.run_pure, Result.andThen_ok, run_underlying hu, e2, Instr.sureAddr, pure_bind]
        rw [if_pos (by omega)]
        simp [run_sizeOf hte, hc.1, Addr.add_lit]
    · rename_i te sz b len hte e
      rw [e] at hx
      simp only [VRel] at hx
      obtain ⟨cap, e3, e2, _⟩ := hx
      split at h <;> first | (cases h; done) | skip
      rename_i hc
      cases h
      refine ⟨_, ?_, by simp only [VRel]; rfl⟩
      simp only [execOp, Instr.indexAt, hi, asIntOf, Sem.run_bind, Sem.run_pure, Result.andThen_ok, run_underlying hu, e2, Instr.sureAddr, pure_bind]
      rw [if_pos hc.2]
      simp [run_sizeOf hte, hc.1, Addr.add_lit]
  · rename_i ht ei
    rw [ei] at hi
    simp only [VRel] at hi
    have hu := u_array ht
    split at h <;> first | (cases h; done) | skip
    · rename_i te sz b r j hte e
      rw [e] at hx
      simp only [VRel] at hx
      split at h <;> first | (cases h; done) | skip
      rename_i hc
      cases h
      refine ⟨_, ?_, by simp only [VRel]; rfl⟩
      simp only [execOp, Instr.indexAt, hi, asIntOf, Sem.run_bind, Sem.run_pure, Result.andThen_ok, run_underlying hu, hx, Instr.sureAddr, pure_bind]
      rw [if_pos hc]
      simp [run_sizeOf hte, Addr.add_lit, Nat.add_assoc]
    · rename_i te row j hte e
      rw [e] at hx
      simp only [VRel] at hx
      obtain ⟨b, o, e5, h1, h2⟩ := hx
      split at h <;> first | (cases h; done) | skip
      rename_i hc
      cases h
      refine ⟨_, ?_, by simp only [VRel]; exact ⟨b, o, rfl, h1, h2⟩⟩
      simp only [execOp, Instr.indexAt, hi, asIntOf, Sem.run_bind, Sem.run_pure, Result.andThen_ok, run_underlying hu, e5, Instr.sureAddr, pure_bind]
      rw [if_pos hc]
      simp [run_sizeOf hte, Addr.add_lit, Nat.add_assoc]

theorem tells_index (hst : St E γ S H w) (hf : FRel S w fr a) {t : TypeId} {x ix : Operand} {v : AV} (h : aq E H fr (.index t x ix) = some v) : Tells E S w a (.index t x ix) v := by
  intro dst ty pos af g
  have hx := ev_rel hst hf x
  have hi := ev_rel hst hf ix
  simp only [aq] at h
  split at h <;> first | (cases h; done) | skip
  · rename_i s _ i ht e ei
    rw [ei] at hi
    rw [e] at hx
    simp only [VRel] at hi hx
    have hu := u_str ht
    split at h <;> first | (cases h; done) | skip
    rename_i hc
    rw [Option.map_eq_some_iff] at h
    obtain ⟨c, hcc, rfl⟩ := h
    refine ⟨.int .u8 _, ?_, by simp only [VRel]; rfl⟩
    have hb : (⟨s.toArray⟩ : ByteArray)[i.toNat]? = some c := by
      have hlt := (List.getElem?_eq_some_iff.1 hcc).1
      rw [getElem?_pos (⟨s.toArray⟩ : ByteArray) i.toNat (by simpa [ByteArray.size] using hlt)]
      congr 1
      have := (List.getElem?_eq_some_iff.1 hcc).2
      show s.toArray[i.toNat] = c
      simpa using this
    simp only [execOp, Instr.index, hi, hx, asIntOf, Sem.run_bind, Sem.run_pure, Result.andThen_ok, run_underlying hu, if_pos hc, hb]
  · rename_i n e cs _ i ht e ei
    rw [ei] at hi
    rw [e] at hx
    simp only [VRel] at hi hx
    obtain ⟨us, e2, hl⟩ := hx
    have hu := u_array ht
    rw [Option.bind_eq_some_iff] at h
    obtain ⟨te, hte, h⟩ := h
    split at h <;> first | (cases h; done) | skip
    rename_i hc
    obtain ⟨v', h1, h2⟩ := rd_part hte hl h w
    refine ⟨v', ?_, h2⟩
    simp only [execOp, Instr.index, hi, e2, asIntOf, Sem.run_bind, Sem.run_pure, Result.andThen_ok, run_underlying hu, if_pos hc, run_sizeOf hte, h1]

theorem tells_len (hst : St E γ S H w) (hf : FRel S w fr a) {args : Array Operand} {ts : Array TypeId} {v : AV} (h : aq E H fr (.call ⟨.builtin .len, args, ts⟩) = some v) : Tells E S w a (.call ⟨.builtin .len, args, ts⟩) v := by
  intro dst ty pos af g
  simp only [aq] at h
  split at h <;> first | (cases h; done) | skip
  rename_i x t ex et
  have hx := ev_rel hst hf x
  have ea : args = #[x] := by rw [← Array.toArray_toList (xs := args), ex]
  have eb : ts = #[t] := by rw [← Array.toArray_toList (xs := ts), et]
  subst ea; subst eb
  split at h <;> first | (cases h; done) | skip
  · rename_i s ht e
    cases h
    rw [e] at hx
    simp only [VRel] at hx
    refine ⟨.int .i64 _, ?_, by simp only [VRel]; rfl⟩
    simp [execOp, resolve, invoke, builtin, Builtin.len_, run_underlying (u_str ht), hx, goInt, size_mk]
  · rename_i sz l ht e
    cases h
    rw [e] at hx
    simp only [VRel] at hx
    obtain ⟨oa, cap, e2, _⟩ := hx
    refine ⟨.int .i64 _, ?_, by simp only [VRel]; rfl⟩
    simp [execOp, resolve, invoke, builtin, Builtin.len_, run_underlying (u_slice ht), e2, goInt]
  · rename_i sz b len ht e
    cases h
    rw [e] at hx
    simp only [VRel] at hx
    obtain ⟨cap, e3, e2, _⟩ := hx
    refine ⟨.int .i64 _, ?_, by simp only [VRel]; rfl⟩
    simp [execOp, resolve, invoke, builtin, Builtin.len_, run_underlying (u_slice ht), e2, goInt]
  · rename_i ht e
    cases h
    rw [e] at hx
    simp only [VRel] at hx
    refine ⟨.int .i64 _, ?_, by simp only [VRel]; rfl⟩
    simp [execOp, resolve, invoke, builtin, Builtin.len_, run_underlying (u_slice ht), hx, goInt]
  · rename_i ht
    cases h
    refine ⟨.int .i64 _, ?_, by simp only [VRel]; rfl⟩
    simp [execOp, resolve, invoke, builtin, Builtin.len_, run_underlying (u_array ht), goInt]
theorem tells_min (hst : St E γ S H w) (hf : FRel S w fr a) {args : Array Operand} {ts : Array TypeId} {v : AV} (h : aq E H fr (.call ⟨.builtin .min, args, ts⟩) = some v) : Tells E S w a (.call ⟨.builtin .min, args, ts⟩) v := by
  intro dst ty pos af g
  simp only [aq] at h
  split at h <;> first | (cases h; done) | skip
  rename_i x y ex
  have hx := ev_rel hst hf x
  have hy := ev_rel hst hf y
  have ea : args = #[x, y] := by rw [← Array.toArray_toList (xs := args), ex]
  subst ea
  split at h <;> first | (cases h; done) | skip
  rename_i e1 e2
  cases h
  rw [e1] at hx
  rw [e2] at hy
  simp only [VRel] at hx hy
  refine ⟨.int _ _, ?_, by simp only [VRel]; rfl⟩
  simp [execOp, resolve, invoke, builtin, Builtin.min_, Builtin.min2, hx, hy]
theorem tells_max (hst : St E γ S H w) (hf : FRel S w fr a) {args : Array Operand} {ts : Array TypeId} {v : AV} (h : aq E H fr (.call ⟨.builtin .max, args, ts⟩) = some v) : Tells E S w a (.call ⟨.builtin .max, args, ts⟩) v := by
  intro dst ty pos af g
  simp only [aq] at h
  split at h <;> first | (cases h; done) | skip
  rename_i x y ex
  have hx := ev_rel hst hf x
  have hy := ev_rel hst hf y
  have ea : args = #[x, y] := by rw [← Array.toArray_toList (xs := args), ex]
  subst ea
  split at h <;> first | (cases h; done) | skip
  rename_i e1 e2
  cases h
  rw [e1] at hx
  rw [e2] at hy
  simp only [VRel] at hx hy
  refine ⟨.int _ _, ?_, by simp only [VRel]; rfl⟩
  simp [execOp, resolve, invoke, builtin, Builtin.max_, Builtin.max2, hx, hy]

/-! ### maps keyed by texts -/
theorem akey_str {S : Seal} {w : World} {k k' : AV} {b : Bool} {x y : Value} (hk : VRel S w k x) (hk' : VRel S w k' y) {s : List UInt8} (hs : k = .str s) (h : akey k k' = some b) :
    Instr.sameNow .string x y = some b := by
  subst hs
  cases k' <;> simp only [akey] at h <;> try (cases h; done)
  simp only [VRel] at hk hk'
  subst hk; subst hk'
  cases h
  simp only [Instr.sameNow]
  congr 1
  rw [beq_toListBytes, toList_mk, toList_mk, bytes_beq]
theorem afind_str {S : Seal} {w : World} {s : List UInt8} {x : Value} (hk : VRel S w (.str s) x) : ∀ (es : List (AV × AV)) (ms : List MapEntry) (i : Nat) (r : Option (Nat × AV)),
    EsRel S w es ms → afind (.str s) es i = some r → ∃ r', Instr.findNow .string x ms i = some r' ∧
      (match r, r' with | none, none => True | some (j, v), some (j', v') => j = j' ∧ i ≤ j ∧ (es[j - i]?).map (·.2) = some v ∧ VRel S w v v' | _, _ => False)
  | [], ms, i, r, h, hr => by
    simp only [EsRel] at h
    subst h
    simp only [afind, Option.some.injEq] at hr
    subst hr
    exact ⟨none, by simp [Instr.findNow], trivial⟩
  | (k', v) :: es, ms, i, r, h, hr => by
    simp only [EsRel] at h
    obtain ⟨e, es', rfl, h1, h2, h3⟩ := h
    simp only [afind] at hr
    split at hr <;> first | (cases hr; done) | skip
    · rename_i hb
      cases hr
      refine ⟨some (i, e.val), ?_, ?_⟩
      · simp only [Instr.findNow, akey_str hk h1 rfl hb]
      · simp only; exact ⟨by trivial, Nat.le_refl _, by simp, h2⟩
    · rename_i hb
      obtain ⟨r', e1, e2⟩ := afind_str hk es es' (i + 1) r h3 hr
      refine ⟨r', ?_, ?_⟩
      · simp only [Instr.findNow, akey_str hk h1 rfl hb, e1]
      · cases r <;> cases r' <;> simp only at e2 ⊢
        obtain ⟨e3, e4, e5, e6⟩ := e2
        refine ⟨e3, by omega, ?_, e6⟩
        rename_i p _
        rw [show p.1 - i = (p.1 - (i + 1)) + 1 by omega]
        simpa using e5
theorem run_findKey_str {P : Program} {tk : TypeId} (hu : P.underlying tk = some .string) {x : Value} {ms : List MapEntry} {r : Option (Nat × Value)} (h : Instr.findNow .string x ms 0 = some r) (w1 : World) :
    (Instr.findKey tk x ms).run P w1 = .ok r w1 := by
  simp only [Instr.findKey, Sem.run_bind, run_underlying hu, Result.andThen_ok, h, Sem.run_pure]
theorem run_checkKey_str {P : Program} {tk : TypeId} (hu : P.underlying tk = some .string) (b : Bool) (s : ByteArray) (w1 : World) : (Instr.checkKey b 10000 tk (.string s)).run P w1 = .ok () w1 := by
  have key : ∀ n : Nat, (Instr.checkKey b (n + 1) tk (.string s)).run P w1 = .ok () w1 := fun n => by
    simp only [Instr.checkKey, Sem.run_bind, run_underlying hu, Result.andThen_ok, Sem.run_pure]
  exact key 9999
theorem run_getMap {P : Program} {w1 : World} {b clock : Nat} {ms : Array MapEntry} (h : w1.heap[b]? = some (.map ms clock)) : (getObj b).run P w1 = .ok (.map ms clock) w1 := by
  simp only [getObj, Sem.run, h]
theorem tells_lookup (hst : St E γ S H w) (hf : FRel S w fr a) {t : TypeId} {x k : Operand} {ok : Bool} {v : AV} (h : aq E H fr (.lookup t x k ok) = some v) : Tells E S w a (.lookup t x k ok) v := by
  intro dst ty pos af g
  have hx := ev_rel hst hf x
  have hk := ev_rel hst hf k
  simp only [aq] at h
  split at h <;> first | (cases h; done) | skip
  rename_i ht ek
  split at h <;> first | (cases h; done) | skip
  rename_i hti hte
  split at h <;> first | (cases h; done) | skip
  rename_i es hes
  split at h <;> first | (cases h; done) | skip
  rename_i r hr
  cases h
  rw [ek] at hk
  obtain ⟨z, hz, ez⟩ := run_zeroValue hte w
  have hu := u_map ht
  have huk := u_str hti
  have hk2 := hk
  simp only [VRel] at hk
  have hm : ∃ ms : List MapEntry, EsRel S w es ms ∧ ((a.eval x = .map none ∧ ms = []) ∨ ∃ b clock, a.eval x = .map (some b) ∧ w.heap[b]? = some (.map ms.toArray clock)) := by
    split at hes
    · rename_i b e
      rw [e] at hx
      simp only [VRel] at hx
      split at hes <;> first | (cases hes; done) | skip
      rename_i hb
      cases hes
      have ho := (hst.obj _ _ hb).1
      simp only [ORel] at ho
      obtain ⟨ms, clock, h1, h2⟩ := ho
      exact ⟨ms.toList, h2, .inr ⟨b, clock, hx, h1⟩⟩
    · rename_i e
      rw [e] at hx
      simp only [VRel] at hx
      cases hes
      exact ⟨[], by simp only [EsRel], .inl ⟨hx, rfl⟩⟩
    · cases hes
  obtain ⟨ms, hm1, hm2⟩ := hm
  obtain ⟨r', hr1, hr2⟩ := afind_str hk2 es ms 0 r hm1 hr
  rw [hk] at hr1
  have hrun : (execOp a.eval ⟨dst, .lookup t x k ok, ty, pos, af, g⟩).run E.P w = .ok (.value (if ok then .tuple #[(r'.map (·.2)).getD z, .bool r'.isSome] else (r'.map (·.2)).getD z)) w := by
    rcases hm2 with ⟨e, rfl⟩ | ⟨b, clock, e, hb⟩
    · simp only [execOp, Instr.lookup, Sem.run_bind, run_underlying hu, Result.andThen_ok, e, Sem.run_pure, hk, run_checkKey_str huk, run_findKey_str huk hr1]
      cases r' <;> simp [hz]
    · simp only [execOp, Instr.lookup, Sem.run_bind, run_underlying hu, Result.andThen_ok, e, Sem.run_pure, run_getMap hb, hk, run_checkKey_str huk, run_findKey_str huk hr1]
      cases r' <;> simp [hz]
  refine ⟨_, hrun, ?_⟩
  have hz2 : VRel S w (avOf z) z := VRel_avOf S w z
  rw [← ez] at hz2
  cases r with
  | none =>
    cases r' with
    | some p => simp only at hr2
    | none =>
      cases ok
      · simpa using hz2
      · simp only [if_true, Option.map_none, Option.getD_none, Option.isSome_none, VRel, LRel]
        exact ⟨[z, .bool false], rfl, z, [.bool false], rfl, hz2, .bool false, [], rfl, rfl, rfl⟩
  | some p =>
    cases r' with
    | none => simp only at hr2
    | some p' =>
      obtain ⟨_, _, _, h6⟩ := hr2
      cases ok
      · simpa using h6
      · simp only [if_true, Option.map_some, Option.getD_some, Option.isSome_some, VRel, LRel]
        exact ⟨[p'.2, .bool true], rfl, p'.2, [.bool true], rfl, h6, .bool true, [], rfl, rfl, rfl⟩
theorem cells_rel {S : Seal} {w : World} {v : AV} {v' : Value} {cs : List AV} (h : VRel S w v v') (hc : cellsOf v = some cs) : LRel S w cs v'.cells.toList := by
  cases v <;> simp only [cellsOf] at hc <;> cases hc
  case agg =>
    simp only [VRel] at h
    obtain ⟨vs, rfl, h⟩ := h
    simpa [Value.cells] using h
  all_goals
    have h0 := h
    simp only [VRel] at h
    have e : v'.cells = #[v'] := by
      first
        | (subst h; rfl)
        | (obtain ⟨_, _, rfl, _⟩ := h; rfl)
        | (obtain ⟨_, rfl, _⟩ := h; rfl)
    rw [e]
    simp only [LRel]
    exact ⟨v', [], rfl, h0, rfl⟩
theorem foldl_set (off : Nat) : ∀ (vs : List Value) (j : Nat) (cur : Array Value), off + j + vs.length ≤ cur.size →
    ((vs.zipIdx j).foldl (fun cs (c, i) => cs.setIfInBounds (off + i) c) cur).toList = cur.toList.take (off + j) ++ vs ++ cur.toList.drop (off + j + vs.length)
  | [], j, cur, _ => by simp
  | v :: vs, j, cur, h => by
    simp only [List.length_cons] at h
    simp only [List.zipIdx_cons, List.foldl_cons]
    rw [foldl_set off vs (j + 1) _ (by simp; omega)]
    simp only [Array.toList_setIfInBounds]
    rw [show off + (j + 1) = off + j + 1 by omega]
    have h1 : (cur.toList.set (off + j) v).take (off + j + 1) = cur.toList.take (off + j) ++ [v] := by
      rw [List.take_succ_eq_append_getElem (by simp; omega)]
      simp only [List.getElem_set_self, List.append_cancel_right_eq]
      apply List.ext_getElem?
      intro i
      simp only [List.getElem?_take, List.getElem?_set]
      split
      · rw [if_neg (by omega)]
      · rfl
    rw [h1, List.drop_set_of_lt (by omega)]
    simp [Nat.add_assoc, Nat.add_comm 1]
theorem fill_rel {P : Program} {S : Seal} {w : World} {gs : Array Field} {places : Nat → Option (Nat × Nat)} (hpl : ∀ (f : Nat) (g : Field) (ti : TI), gs[f]? = some g → tinfo P g.type = some ti → places f = some (g.offset, ti.size)) {G : Nat → Option (List AV)} :
    ∀ (ps : List (Nat × AV)) (qs : List (Nat × Value)) (z : List AV) (cur : Array Value) (r : List AV),
      ps.length = qs.length → (∀ (i : Nat) p q, ps[i]? = some p → qs[i]? = some q → p.1 = q.1 ∧ VRel S w p.2 q.2) → LRel S w z cur.toList →
      aq.abuild ⟨P, G⟩ (gs.toList.map fun f => (f.type, f.offset)) z ps = some r → ∃ out, Instr.fill places cur qs = some out ∧ LRel S w r out.toList
  | [], qs, z, cur, r, hl, _, hz, h => by
    cases qs with
    | nil =>
      simp only [aq.abuild, Option.some.injEq] at h
      subst h
      exact ⟨cur, by simp [Instr.fill], hz⟩
    | cons => simp at hl
  | (i, v) :: ps, qs, z, cur, r, hl, hp, hz, h => by
    cases qs with
    | nil => simp at hl
    | cons q qs =>
      obtain ⟨i', v'⟩ := q
      obtain ⟨e1, e2⟩ := hp 0 _ _ rfl rfl
      simp only at e1 e2
      subst e1
      simp only [aq.abuild] at h
      split at h <;> first | (cases h; done) | skip
      rename_i t off hf
      split at h <;> first | (cases h; done) | skip
      rename_i ti hti
      split at h <;> first | (cases h; done) | skip
      rename_i cs hcs
      split at h <;> first | (cases h; done) | skip
      rename_i hc
      rw [List.getElem?_map, Option.map_eq_some_iff] at hf
      obtain ⟨g, hg, hg2⟩ := hf
      cases hg2
      have hv := cells_rel e2 hcs
      have hlen : v'.cells.size = cs.length := by simpa using hv.length
      have hzl : cur.size = z.length := by simpa using hz.length
      have hpi := hpl i g ti (by simpa using hg) hti
      have hfold := foldl_set g.offset v'.cells.toList 0 cur (by simp [hlen]; omega)
      have hstep : LRel S w (z.take g.offset ++ cs ++ z.drop (g.offset + cs.length)) ((v'.cells.zipIdx.foldl (fun cs (c, j) => cs.setIfInBounds (g.offset + j) c) cur).toList) := by
        have e3 : (v'.cells.zipIdx.foldl (fun cs (c, j) => cs.setIfInBounds (g.offset + j) c) cur) = (v'.cells.toList.zipIdx.foldl (fun cs (c, j) => cs.setIfInBounds (g.offset + j) c) cur) := by
          rw [← Array.foldl_toList]
          simp
        rw [e3, hfold]
        simp only [Nat.add_zero, Array.length_toList, hlen]
        exact (LRel.append (hz.take _) hv).append (hz.drop _)
      obtain ⟨out, ho, hr⟩ := fill_rel hpl ps qs _ _ r (by simpa using hl) (fun j p q h1 h2 => hp (j + 1) p q (by simpa using h1) (by simpa using h2)) hstep h
      refine ⟨out, ?_, hr⟩
      simp only [Instr.fill, hpi]
      rw [if_neg (by simp; omega)]
      exact ho
theorem run_places {P : Program} {w1 : World} : ∀ (gs : List Field), (gs.map fun f => (f.type, f.offset)).all (fun p => (tinfo P p.1).isSome) = true →
    ∃ ps : List (Nat × Nat), (gs.mapM (m := Sem) fun f => do pure (f.offset, ← sizeOf f.type)).run P w1 = .ok ps w1 ∧ ∀ (f : Nat) (g : Field) (ti : TI), gs[f]? = some g → tinfo P g.type = some ti → ps[f]? = some (g.offset, ti.size)
  | [], _ => ⟨[], by simp, by simp⟩
  | g :: gs, h => by
    simp only [List.map_cons, List.all_cons, Bool.and_eq_true, Option.isSome_iff_exists] at h
    obtain ⟨⟨ti, hti⟩, h⟩ := h
    obtain ⟨ps, h1, h2⟩ := run_places (w1 := w1) gs h
    refine ⟨(g.offset, ti.size) :: ps, ?_, fun f g' ti' hf ht => ?_⟩
    · simp only [List.mapM_cons, Sem.run_bind, run_sizeOf hti, Result.andThen_ok, Sem.run_pure] at h1 ⊢
      simp only [h1, Result.andThen_ok]
    · cases f with
      | zero => simp at hf; subst hf; rw [hti] at ht; cases ht; rfl
      | succ f => simp at hf; simpa using h2 f g' ti' hf ht
theorem tells_build (hst : St E γ S H w) (hf : FRel S w fr a) {t : TypeId} {parts : Array (Nat × Operand)} {v : AV} (h : aq E H fr (.build t parts) = some v) : Tells E S w a (.build t parts) v := by
  intro dst ty pos af g
  simp only [aq, Option.bind_eq_some_iff] at h
  obtain ⟨ti, hti, h⟩ := h
  split at h <;> first | (cases h; done) | skip
  rename_i fs hk
  split at h <;> first | (cases h; done) | skip
  rename_i hall
  split at h <;> first | (cases h; done) | skip
  rename_i z hz
  rw [Option.map_eq_some_iff] at h
  obtain ⟨r, hr, rfl⟩ := h
  obtain ⟨k, s1, b1, z1⟩ := ti
  simp only at hk hz
  subst hk; subst hz
  obtain ⟨gs, hu, rfl⟩ := u_struct hti
  obtain ⟨zv, hzr, ez⟩ := run_zeroValue hti w
  have hzrel : VRel S w (avOf zv) zv := VRel_avOf S w zv
  rw [← ez] at hzrel
  have hzc : LRel S w z zv.cells.toList := cells_rel hzrel rfl
  obtain ⟨ps, hp1, hp2⟩ := run_places (P := E.P) (w1 := w) gs.toList (by simpa only [Bool.not_eq_false] using hall)
  have hpm : (gs.mapM (m := Sem) fun f => do pure (f.offset, ← sizeOf f.type)).run E.P w = .ok ps.toArray w := by
    rw [Array.mapM_eq_mapM_toList]
    simp only [Sem.run_map, hp1, Result.andThen_ok]
  obtain ⟨out, ho, hrel⟩ := fill_rel (P := E.P) (G := E.G) (places := fun i => ps.toArray[i]?) (gs := gs)
    (fun f g ti h1 h2 => by simpa using hp2 f g ti (by simpa using h1) h2)
    (parts.toList.map fun p => (p.1, ev E.G fr p.2)) (parts.toList.map fun p => (p.1, a.eval p.2)) z zv.cells r (by simp)
    (fun i p q h1 h2 => by
      rw [List.getElem?_map, Option.map_eq_some_iff] at h1 h2
      obtain ⟨x, hx, rfl⟩ := h1
      obtain ⟨y, hy, rfl⟩ := h2
      rw [hx] at hy; cases hy
      exact ⟨rfl, ev_rel hst hf x.2⟩) hzc hr
  refine ⟨.agg out, ?_, by simp only [VRel]; exact ⟨out.toList, by simp, hrel⟩⟩
  have ho' : Instr.fill (fun i => ps.toArray[i]?) zv.cells (parts.map fun x => (x.1, a.eval x.2)).toList = some out := by simpa using ho
  simp only [execOp, Instr.build, Sem.run_bind, hzr, Result.andThen_ok, run_underlying hu, hpm, ho', Sem.run_pure]

/-- ALL OF THEM -/
theorem aq_sound (hst : St E γ S H w) (hf : FRel S w fr a) {o : Op} {v : AV} (h : aq E H fr o = some v) : Tells E S w a o v := by
  cases o
  case move x =>
    intro dst ty pos af g
    simp only [aq, Option.some.injEq] at h
    subst h
    exact ⟨_, by simp [execOp], ev_rel hst hf x⟩
  case assign x =>
    intro dst ty pos af g
    simp only [aq, Option.some.injEq] at h
    subst h
    exact ⟨_, by simp [execOp], ev_rel hst hf x⟩
  case pick c x y =>
    intro dst ty pos af g
    have hc := ev_rel hst hf c
    simp only [aq] at h
    split at h <;> first | (cases h; done) | skip
    rename_i b e
    cases h
    rw [e] at hc
    simp only [VRel] at hc
    cases b
    · exact ⟨_, by simp [execOp, hc, asBool], ev_rel hst hf y⟩
    · exact ⟨_, by simp [execOp, hc, asBool], ev_rel hst hf x⟩
  case build => exact tells_build hst hf h
  case load => exact tells_load hst hf h
  case nilCheck => exact tells_nilCheck hst hf h
  case binOp => exact tells_binOp hst hf h
  case unOp => exact tells_unOp hst hf h
  case convert => exact tells_convert hst hf h
  case makeInterface => exact tells_makeInterface hst hf h
  case makeFunc => exact tells_makeFunc hst hf h
  case slice t x lo hi mx =>
    cases mx with
    | none => exact tells_slice hst hf h
    | some m => simp [aq] at h
  case fieldAddr => exact tells_fieldAddr hst hf h
  case field => exact tells_field hst hf h
  case indexAddr => exact tells_indexAddr hst hf h
  case index => exact tells_index hst hf h
  case lookup => exact tells_lookup hst hf h
  case extract => exact tells_extract hst hf h
  case call c =>
    obtain ⟨callee, args, ts⟩ := c
    cases callee with
    | value => simp [aq] at h
    | invoke => simp [aq] at h
    | builtin b =>
      cases b <;> first
        | exact tells_len hst hf h
        | exact tells_min hst hf h
        | exact tells_max hst hf h
        | (simp [aq] at h; done)
  all_goals (simp [aq] at h)
end
end Go.Al
