/- The little logic, twelfth part: make and the writing of maps. -/
import Derived.Test.YtcfapbmjaiipjaaDoorAlK
set_option linter.unusedSimpArgs false
set_option linter.unusedVariables false
namespace Go.Al
section
variable {E : Env} {γ : Start} {S : Seal} {H : Hp} {w : World} {fr : Fr} {a : Act}

theorem range_mod {α : Type} [Inhabited α] (z : Array α) (n : Nat) (hz : 0 < z.size) : ((Array.range (n * z.size)).map (fun k => z[k % z.size]!)).toList = (List.replicate n z.toList).flatten := by
  apply List.ext_getElem?
  intro q
  have hl : (List.replicate n z.toList).flatten.length = n * z.size := by simp
  by_cases hq : q < n * z.size
  · have e1 : ((Array.range (n * z.size)).map (fun k => z[k % z.size]!)).toList[q]? = some z[q % z.size]! := by
      simp [hq]
    rw [e1]
    have hm := Nat.mod_lt q hz
    have hdiv : q / z.size < n := (Nat.div_lt_iff_lt_mul hz).2 hq
    have hc := chunk (sz := z.size) (List.replicate n z.toList) (q / z.size) z.toList (fun x hx => by rw [(List.mem_replicate.1 hx).2]; simp) (by simp [hdiv])
    have e2 : ((List.replicate n z.toList).flatten.drop (q / z.size * z.size)).take z.size = z.toList := hc
    have e3 := congrArg (fun l => l[q % z.size]?) e2
    simp only [List.getElem?_take, List.getElem?_drop, hm, if_true] at e3
    rw [show q / z.size * z.size + q % z.size = q by rw [Nat.mul_comm]; exact Nat.div_add_mod q z.size] at e3
    rw [e3]
    simp [hm]
  · rw [List.getElem?_eq_none (by simpa using Nat.le_of_not_lt hq), List.getElem?_eq_none (by omega)]

theorem run_make (hst : St E γ S H w) {t e : TypeId} {s1 b1 : Nat} {z1 : AV} {te : TI} {zc : List AV} {n : Int} (ht : tinfo E.P t = some ⟨.slice e, s1, b1, z1⟩) (hte : tinfo E.P e = some te) (hz : cellsOf te.zero = some zc) (hzl : zc.length = te.size) (hz0 : 0 < te.size)
    (hb1 : 1 ≤ te.bytes) (h0 : 0 ≤ n) (hn : te.bytes * n ≤ 281474976710656) {k k' : IntKind} :
    ∃ w', (Instr.makeSlice t (.int k n) (.int k' n)).run E.P w = .ok (.slice (some ⟨w.heap.size, 0, none⟩) n.toNat n.toNat) w' ∧ H w.heap.size = none ∧ Keeps S S w w' ∧
      St E γ S (upd H w.heap.size (some (.rows te.size (List.replicate n.toNat zc)))) w' ∧ VRel S w' (.osl te.size w.heap.size n.toNat) (.slice (some ⟨w.heap.size, 0, none⟩) n.toNat n.toNat) := by
  have hu := u_slice ht
  obtain ⟨d, i, z, hd, hi, hzi, hti⟩ := tinfo_spec hte
  have es : te.size = i.size := by rw [hti]
  have eb : te.bytes = i.bytes := by rw [hti]
  have hzc : LRel S w zc z.cells.toList := cells_rel (VRel_avOf S w z) (by rw [hti] at hz; exact hz)
  have hzs : z.cells.size = te.size := by have := hzc.length; simp at this; omega
  have hbn : (1 : Int) ≤ (te.bytes : Int) := by omega
  have hnle : n ≤ 281474976710656 := by
    have h5 : 1 * n ≤ (te.bytes : Int) * n := Int.mul_le_mul_of_nonneg_right hbn h0
    omega
  have hw : IntKind.i64.wrap n = n := IntWalk.i64_in n ⟨by omega, by omega⟩
  have hrows : (List.replicate n.toNat zc).length = n.toNat := by simp
  have hrel : LRel S w (List.replicate n.toNat zc).flatten (List.replicate n.toNat z.cells.toList).flatten := by
    generalize n.toNat = m
    induction m with
    | zero => simp [LRel]
    | succ m ih => simp only [List.replicate_succ, List.flatten_cons]; exact hzc.append ih
  have hall : ∀ r ∈ List.replicate n.toNat zc, r.length = te.size := fun r hr => by rw [(List.mem_replicate.1 hr).2, hzl]
  generalize hcs : (Array.range (n.toNat * te.size)).map (fun k => z.cells[k % z.cells.size]!) = cs
  have hcl : cs.toList = (List.replicate n.toNat z.cells.toList).flatten := by
    rw [← hcs, ← hzs]; exact range_mod z.cells n.toNat (by omega)
  have hsize : cs.size = n.toNat * te.size := by rw [← hcs]; simp
  obtain ⟨f1, f2, f3⟩ := hst.newRows (e := e) (cs := cs) hrel hall (by
    rw [hrows, hcl, ← hsize]
    rw [← Array.length_toList, hcl]
    exact List.take_length) (by rw [hrows]; exact Nat.le_of_eq hsize.symm)
  refine ⟨_, ?_, f1, f2, f3, ?_⟩
  · have h1 : ¬ n < 0 := by omega
    have h2 : ¬ ((i.bytes : Int) * n > 2 ^ 48) := by rw [← eb]; simp; omega
    have h3 : ¬ n > n := by omega
    simp only [Instr.makeSlice, Sem.run_bind, run_underlying hu, Result.andThen_ok, asInt, asIntOf, Sem.run_pure, typeInfo, run_program, hi, hw]
    rw [if_neg (by simp only [Bool.or_eq_true, decide_eq_true_eq]; simp [h1, h3]; omega)]
    simp only [Sem.run_bind, run_askRoom, Result.andThen_ok, sizeOf, typeInfo, run_program, hi, Sem.run_pure]
    by_cases hn0 : n.toNat * i.size = 0
    · rw [if_pos hn0]
      have hcs0 : cs = #[] := by
        apply Array.eq_empty_of_size_eq_zero
        rw [hsize, es]; exact hn0
      simp only [Sem.run_bind, Sem.run_pure, Result.andThen_ok, newRow, run_newObj, hn0, hcs0]
      rw [show (Array.map (fun x => (#[] : Array Value)[x % (#[] : Array Value).size]!) (Array.range 0)) = #[] from by simp]
      rfl
    · rw [if_neg hn0]
      rw [es] at hcs
      simp only [Sem.run_bind, zeroValue, typeInfo, run_program, hi, hzi, Sem.run_pure, Result.andThen_ok, newRow, run_newObj, hcs]
      rfl
  · simp only [VRel]
    have := heap_alloc_new w (.cells cs e)
    exact ⟨n.toNat, e, rfl, by simp only [World.shape?, this, hsize], Nat.le_refl _, by simp only [maxLen]; omega⟩

/-- the entries behind 'm[k] = v' -/
def aput (es : List (AV × AV)) (k v : AV) : Option (List (AV × AV)) :=
  match afind k es 0 with
  | some (some (i, _)) => some (es.set i (k, v))
  | some none => some (es ++ [(k, v)])
  | none => none
theorem EsRel.length {S : Seal} {w : World} : ∀ {es : List (AV × AV)} {ms : List MapEntry}, EsRel S w es ms → ms.length = es.length
  | [], ms, h => by simp only [EsRel] at h; subst h; rfl
  | (k, v) :: es, ms, h => by simp only [EsRel] at h; obtain ⟨e, es', rfl, _, _, h⟩ := h; simp [EsRel.length h]
theorem EsRel.append {S : Seal} {w : World} {k v : AV} {e : MapEntry} (hk : VRel S w k e.key) (hv : VRel S w v e.val) : ∀ {es : List (AV × AV)} {ms : List MapEntry}, EsRel S w es ms → EsRel S w (es ++ [(k, v)]) (ms ++ [e])
  | [], ms, h => by simp only [EsRel] at h; subst h; simp only [List.nil_append, EsRel]; exact ⟨e, [], rfl, hk, hv, rfl⟩
  | (k', v') :: es, ms, h => by
    simp only [EsRel] at h; obtain ⟨e', es', rfl, h1, h2, h⟩ := h
    simp only [List.cons_append, EsRel]
    exact ⟨e', _, rfl, h1, h2, EsRel.append hk hv h⟩
theorem EsRel.set {S : Seal} {w : World} {k v : AV} {f : MapEntry → MapEntry} (hk : ∀ e, VRel S w k (f e).key) (hv : ∀ e, VRel S w v (f e).val) : ∀ {es : List (AV × AV)} {ms : List MapEntry} (i : Nat), EsRel S w es ms → EsRel S w (es.set i (k, v)) (ms.modify i f)
  | [], ms, i, h => by simp only [EsRel] at h; subst h; simp [EsRel]
  | (k', v') :: es, ms, 0, h => by
    simp only [EsRel] at h; obtain ⟨e', es', rfl, h1, h2, h⟩ := h
    simp only [List.set_cons_zero, List.modify_cons, EsRel]
    exact ⟨_, _, rfl, hk _, hv _, h⟩
  | (k', v') :: es, ms, i + 1, h => by
    simp only [EsRel] at h; obtain ⟨e', es', rfl, h1, h2, h⟩ := h
    simp only [List.set_cons_succ, EsRel]
    exact ⟨e', _, by simp [List.modify_succ_cons], h1, h2, EsRel.set hk hv i h⟩
theorem run_setMap {P : Program} {w1 : World} {b clock : Nat} {ms : Array MapEntry} (h : w1.heap[b]? = some (.map ms clock)) (o : Obj) : (setObj b o).run P w1 = .ok () { w1 with heap := w1.heap.setIfInBounds b o } := by
  simp only [setObj, Sem.run, h]
theorem findNow_key {x : Value} : ∀ (ms : List MapEntry) (i j : Nat) (v : Value), Instr.findNow .string x ms i = some (some (j, v)) → i ≤ j ∧ ∃ e, ms[j - i]? = some e ∧ Instr.sameNow .string x e.key = some true
  | [], i, j, v, h => by simp [Instr.findNow] at h
  | e :: ms, i, j, v, h => by
    simp only [Instr.findNow] at h
    split at h
    · rename_i hs
      cases h
      exact ⟨Nat.le_refl _, e, by simp, hs⟩
    · obtain ⟨h1, e', h2, h3⟩ := findNow_key ms (i + 1) j v h
      refine ⟨by omega, e', ?_, h3⟩
      rw [show j - i = (j - (i + 1)) + 1 by omega]
      simpa using h2
    · cases h
theorem run_mapUpdate (hst : St E γ S H w) {t tk te : TypeId} {s1 b1 : Nat} {z1 : AV} {s2 b2 : Nat} {z2 : AV} (ht : tinfo E.P t = some ⟨.map tk te, s1, b1, z1⟩) (htk : tinfo E.P tk = some ⟨.str, s2, b2, z2⟩) {b : Nat} {es es' : List (AV × AV)} (hb : H b = some (.amap es))
    {s : List UInt8} {v : AV} {v' : Value} (hv : VRel S w v v') (hp : aput es (.str s) v = some es') :
    ∃ w', (Instr.mapUpdate t (.map (some b)) (.string ⟨s.toArray⟩) v').run E.P w = .ok () w' ∧ Keeps S S w w' ∧ St E γ S (upd H b (some (.amap es'))) w' := by
  have ho := (hst.obj b _ hb).1
  have hlt := ho.lt
  have hnS := (hst.obj b _ hb).2.1
  simp only [ORel] at ho
  obtain ⟨ms, clock, h1, h2⟩ := ho
  have hu := u_map ht
  have huk := u_str htk
  -- a map's block is written
  have key : ∀ (ms' : Array MapEntry) (clock' : Nat), EsRel S w es' ms'.toList → Keeps S S w { w with heap := w.heap.setIfInBounds b (.map ms' clock') } ∧ St E γ S (upd H b (some (.amap es'))) { w with heap := w.heap.setIfInBounds b (.map ms' clock') } := by
    intro ms' clock' hr
    have hx : Ext (fun k => k = b) w { w with heap := w.heap.setIfInBounds b (.map ms' clock') } := by
      refine ⟨rfl, rfl, rfl, by simp, fun k _ hn => ?_, fun k sh hs => ?_, fun k c e z hz => ?_⟩
      case refine_3 =>
        simp only [Array.getElem?_setIfInBounds] at hz
        split at hz
        · first | (cases hz; done) | (split at hz <;> cases hz)
        · exact .inr ⟨c, e, hz⟩
      · simp only [Array.getElem?_setIfInBounds]; rw [if_neg (fun e => hn e.symm)]
      · by_cases e : k = b
        · subst e; simp only [World.shape?, h1] at hs; cases hs
        · rw [shape_of (by simp only [Array.getElem?_setIfInBounds]; rw [if_neg (fun e' => e e'.symm)])]; exact hs
    have hK : Keeps S S w { w with heap := w.heap.setIfInBounds b (.map ms' clock') } := hst.keeps hx (fun k hk _ => hk ▸ hnS) (fun _ h => h)
    refine ⟨hK, hst.step hx (fun k hk _ => by subst hk; simp [hb]) (fun _ h => h) (fun k hk => by simp; exact hst.lt k hk) (fun k hk => .inl hk) fun b' o hb' => ?_⟩
    by_cases e : b' = b
    · subst e
      simp only [upd, if_true, Option.some.injEq] at hb'
      subst hb'
      refine ⟨hnS, .inr ⟨?_, .inl (by simp [hb])⟩⟩
      simp only [ORel]
      exact ⟨ms', clock', by simp [hlt], EsRel.mono hK _ _ hr⟩
    · simp only [upd, if_neg e] at hb'
      exact ⟨(hst.obj b' o hb').2.1, .inl ⟨hb', e⟩⟩
  have hks : VRel S w (.str s) (.string ⟨s.toArray⟩) := by simp only [VRel]
  unfold aput at hp
  split at hp <;> first | (cases hp; done) | skip
  · rename_i i u hf
    cases hp
    obtain ⟨r', hr1, hr2⟩ := afind_str hks es ms.toList 0 _ h2 hf
    cases r' with
    | none => simp only at hr2
    | some p =>
      obtain ⟨pi, pv⟩ := p
      obtain ⟨e1, _, _, _⟩ := hr2
      subst e1
      obtain ⟨_, e, he, hsame⟩ := findNow_key _ _ _ _ hr1
      simp only [Nat.sub_zero] at he
      have hkey : Instr.sameBits 10000 e.key (.string ⟨s.toArray⟩) = true := by
        cases hk : e.key <;> rw [hk] at hsame <;> simp only [Instr.sameNow] at hsame <;> try (cases hsame; done)
        simp only [Option.some.injEq] at hsame
        have hcomm : ∀ x y : ByteArray, (x == y) = true → (y == x) = true := fun x y h => by
          rw [beq_toListBytes] at h ⊢; rw [bytes_beq] at h ⊢; simp at h ⊢; exact h.symm
        exact hcomm _ _ hsame
      refine ⟨_, ?_, key (ms.modify i fun e => { e with key := .string ⟨s.toArray⟩, val := v' }) clock ?_⟩
      · simp only [Instr.mapUpdate, Sem.run_bind, run_underlying hu, Result.andThen_ok, run_getMap h1, run_checkKey_str huk, run_findKey_str huk hr1]
        have : ((ms[i]?).map (·.key)).getD (.string ⟨s.toArray⟩) = e.key := by
          rw [← Array.getElem?_toList, he]; rfl
        simp only [Instr.keyThatStays, this, hkey, if_true, Sem.run_pure, Result.andThen_ok, run_setMap h1]
      · rw [Array.toList_modify]
        exact EsRel.set (f := fun e => { e with key := .string ⟨s.toArray⟩, val := v' }) (fun _ => hks) (fun _ => hv) i h2
  · rename_i hf
    cases hp
    obtain ⟨r', hr1, hr2⟩ := afind_str hks es ms.toList 0 _ h2 hf
    cases r' with
    | some p => simp only at hr2
    | none =>
      refine ⟨_, ?_, key (ms.push { key := .string ⟨s.toArray⟩, val := v', born := clock }) (clock + 1) ?_⟩
      · simp only [Instr.mapUpdate, Sem.run_bind, run_underlying hu, Result.andThen_ok, run_getMap h1, run_checkKey_str huk, run_findKey_str huk hr1, run_setMap h1]
      · rw [Array.toList_push]
        exact EsRel.append hks hv h2
end
end Go.Al
