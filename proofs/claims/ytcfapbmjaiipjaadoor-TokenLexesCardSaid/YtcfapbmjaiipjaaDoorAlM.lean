/- The little logic, thirteenth part: one operation, of whatever kind. -/
import Derived.Test.YtcfapbmjaiipjaaDoorAlL
set_option linter.unusedSimpArgs false
set_option linter.unusedVariables false
namespace Go.Al

/-- what an operation makes that makes one block -/
def newObj (E : Env) (fr : Fr) : Op → Option ((Nat → AV) × AObj)
  | .alloc t => (tinfo E.P t).bind fun ti => (cellsOf ti.zero).map fun cs => (fun b => .ptr cs.length b 0 0, .rows cs.length [cs])
  | .box _ x => (cellsOf (ev E.G fr x)).map fun cs => (fun b => .ptr cs.length b 0 0, .rows cs.length [cs])
  | .makeMap t r => match tinfo E.P t, r.map (ev E.G fr) with
    | some ⟨.map _ _, _, _, _⟩, none => some (fun b => .mp b, .amap [])
    | some ⟨.map _ _, _, _, _⟩, some (.int _ _) => some (fun b => .mp b, .amap [])
    | _, _ => none
  | .makeSlice t l c => match tinfo E.P t, ev E.G fr l, ev E.G fr c with
    | some ⟨.slice e, _, _, _⟩, .int _ n, .int _ n' => (tinfo E.P e).bind fun te => (cellsOf te.zero).bind fun zc =>
      if n = n' ∧ zc.length = te.size ∧ 0 < te.size ∧ 1 ≤ te.bytes ∧ 0 ≤ n ∧ te.bytes * n ≤ 281474976710656 then some (fun b => .osl te.size b n.toNat, .rows te.size (List.replicate n.toNat zc)) else none
    | _, _, _ => none
  | _ => none
/-- a slice literal -/
def alit (E : Env) (fr : Fr) (t : TypeId) (len : Nat) (parts : Array (Nat × Operand)) : Option (Nat × List (List AV)) :=
  match tinfo E.P t with
  | some ⟨.slice e, _, _, _⟩ => (tinfo E.P e).bind fun te => (aparts E fr te.size 0 parts.toList).bind fun rows => if rows.length = len ∧ len * te.size ≤ 16777216 ∧ len ≤ 16777216 then some (te.size, rows) else none
  | _ => none
/-- a store -/
def astore (E : Env) (H : Hp) (fr : Fr) (t : TypeId) (p x : Operand) : Option (Nat × Hp) :=
  match ev E.G fr p with
  | .ptr sz b i j => match H b with
    | some (.rows sz' l) => (l[i]?).bind fun row => (tinfo E.P t).bind fun ti => (cellsOf (ev E.G fr x)).bind fun cs =>
      if sz = sz' ∧ cs.length = ti.size ∧ j + cs.length ≤ row.length ∧ cs.all one = true then some (b, upd H b (some (.rows sz (l.set i (row.take j ++ cs ++ row.drop (j + cs.length)))))) else none
    | _ => none
  | _ => none
/-- a store into a map -/
def amapset (E : Env) (H : Hp) (fr : Fr) (t : TypeId) (m k x : Operand) : Option (Nat × Hp) :=
  match tinfo E.P t, ev E.G fr m, ev E.G fr k with
  | some ⟨.map tk _, _, _, _⟩, .mp b, .str s => match tinfo E.P tk, H b with
    | some ⟨.str, _, _, _⟩, some (.amap es) => (aput es (.str s) (ev E.G fr x)).map fun es' => (b, upd H b (some (.amap es')))
    | _, _ => none
  | _, _, _ => none
/-- an append: the element type's cells, the rows behind -/
def aapp (E : Env) (H : Hp) (fr : Fr) (args : Array Operand) (ts : Array TypeId) : Option (Nat × Nat × AV × List (List AV)) :=
  match args.toList, ts.toList with
  | [s, x], [t, u] => match tinfo E.P t with
    | some ⟨.slice e, _, _, _⟩ => (tinfo E.P e).bind fun te => (asrc H te.size (ev E.G fr x)).bind fun ys =>
      if t = u ∧ (cellsOf te.zero).map List.length = some te.size ∧ 1 ≤ te.bytes ∧ ys.all (fun r => r.all one) = true then some (te.size, te.bytes, ev E.G fr s, ys) else none
    | _ => none
  | _, _ => none

/-- ONE OPERATION: what must hold ahead of it, so that K holds of its value and of what is owned behind it (Kp: of what it panics with). okf: which owned blocks it may touch. -/
def astep (E : Env) (okf : Nat → Prop) (o : Op) (fr : Fr) (H : Hp) (K Kp : AV → Hp → Prop) : Prop :=
  match o with
  | .alloc _ | .box _ _ | .makeMap _ _ | .makeSlice _ _ _ => match newObj E fr o with
    | some p => ∀ b, H b = none → K (p.1 b) (upd H b (some p.2))
    | none => False
  | .buildSlice t len parts => match alit E fr t len parts with
    | some p => K (.isl p.1 p.2) H ∨ ∀ b, H b = none → K (.osl p.1 b len) (upd H b (some (.rows p.1 p.2)))
    | none => False
  | .store t p x => match astore E H fr t p x with
    | some q => okf q.1 ∧ K (.tup []) q.2
    | none => False
  | .mapUpdate t m k x | .insert t m k x => match amapset E H fr t m k x with
    | some q => okf q.1 ∧ K (.tup []) q.2
    | none => False
  | .panic x => match ev E.G fr x with
    | .ifc t v => Kp (.ifc t v) H
    | _ => False
  | .call ⟨.builtin .append, args, ts⟩ => match aapp E H fr args ts with
    | some (sz, by', .nsl, ys) => ys.length * by' ≤ 140737488355328 ∧ (ys = [] → K .nsl H) ∧ (ys ≠ [] → ∀ b, H b = none → K (.osl sz b ys.length) (upd H b (some (.rows sz ys))))
    | some (sz, by', .osl sz' b len, ys) => match H b with
      | some (.rows sz'' l) => sz' = sz ∧ sz'' = sz ∧ len = l.length ∧ (l.length + ys.length) * by' ≤ 140737488355328 ∧ okf b ∧
        ∀ b', (b' = b ∨ H b' = none) → K (.osl sz b' (l.length + ys.length)) (upd (upd H b none) b' (some (.rows sz (l ++ ys))))
      | _ => False
    | _ => False
  | .call ⟨.value f, args, _⟩ => match ev E.G fr f with
    | .fn (.func g) first cap => ∃ args' H0 R, SubL (first ++ args.toList.map (ev E.G fr) ++ cap) args' ∧ Con E g args' H0 R ∧ hsub H0 H ∧ (∀ b, H0 b ≠ none → okf b) ∧
        ∀ ae H', R ae H' → (∀ b, H' b ≠ none → H0 b ≠ none ∨ H b = none) → (match ae with | .ret v => K v (hjoin H' H0 H) | .pan v => Kp v (hjoin H' H0 H))
    | _ => False
  | o => match aq E H fr o with
    | some v => K v H
    | none => False

section
variable {E : Env} {γ : Start} {S : Seal} {H : Hp} {w : World} {fr : Fr} {a : Act}

theorem call_sound (hst : St E γ S H w) {g : FuncId} {args' : List AV} {H0 : Hp} {R : AEnd → Hp → Prop} {vs : List Value} (hc : Con E g args' H0 R) (hsb : hsub H0 H) (hargs : LRel S w args' vs) :
    Calls E.P g vs.toArray w fun e w' => ∃ ae H' S', Keeps S S' w w' ∧ St E γ S' (hjoin H' H0 H) w' ∧ ERel S' w' ae e ∧ R ae H' ∧ ∀ b, H' b ≠ none → H0 b ≠ none ∨ H b = none := by
  have hst0 : St E ⟨w, dom H0, S⟩ S H0 w := by
    refine ⟨hst.lt, fun _ h => h, fun _ h => .inl h, fun b o hb => ?_, Ext.refl _ _, hst.glb⟩
    obtain ⟨h1, h2, _⟩ := hst.obj b o (hsb b o hb)
    exact ⟨h1, h2, .inl (by simp [dom, hb])⟩
  refine (hc.2 w S vs hst0 hargs).mono fun e w' ⟨ae, H', S', h1, h2, h3⟩ => ?_
  have hown : ∀ k, dom H0 k → H k ≠ none := fun k hk => by
    cases ho : H0 k with
    | none => exact absurd ho hk
    | some o => simp [hsb k o ho]
  have hnew : ∀ b, H' b ≠ none → H0 b ≠ none ∨ w.heap.size ≤ b := fun b hb => by
    cases ho : H' b with
    | none => exact absurd ho hb
    | some o => exact (h1.obj b o ho).2.2
  have hnone : ∀ b, w.heap.size ≤ b → H b = none := fun b hb => by
    cases ho : H b with
    | none => rfl
    | some o => have := (hst.obj b o ho).1.lt; omega
  have hk : Keeps S S' w w' := hst.keeps h1.ext (fun k hk _ => by
    cases ho : H k with
    | none => exact absurd ho (hown k hk)
    | some o => exact (hst.obj k o ho).2.1) h1.base
  refine ⟨ae, H', S', hk, ?_, h2, h3, fun b hb => ?_⟩
  · refine hst.step h1.ext (fun k hk _ => hown k hk) h1.base h1.lt (fun k hk => ?_) fun b o hb => ?_
    · rcases h1.src k hk with h | h | h
      · exact .inl h
      · exact .inr (.inl (hown k h))
      · exact .inr (.inr h)
    · unfold hjoin at hb
      split at hb
      · rename_i o' ho
        cases hb
        obtain ⟨g1, g2, g3⟩ := h1.obj b o ho
        refine ⟨g2, .inr ⟨g1, ?_⟩⟩
        rcases g3 with g3 | g3
        · exact .inl (hown b g3)
        · exact .inr g3
      · split at hb
        · cases hb
        · rename_i hn0
          have hd : ¬ dom H0 b := by
            intro hd; apply hn0
            cases ho : H0 b with
            | none => exact absurd ho hd
            | some o => rfl
          obtain ⟨g1, g2, g3⟩ := hst.obj b o hb
          refine ⟨fun hs => ?_, .inl ⟨hb, hd⟩⟩
          rcases h1.src b hs with h | h | h
          · exact g2 h
          · exact hd h
          · have h5 := g1.lt
            simp only at h
            omega
  · rcases hnew b hb with h | h
    · exact .inl h
    · exact .inr (hnone b h)

theorem astep_sound (hst : St E γ S H w) (hf : FRel S w fr a) {okf : Nat → Prop} {o : Op} {K Kp : AV → Hp → Prop} (h : astep E okf o fr H K Kp) {next : Act → World → Prop} {Q : Exit → Act → World → Prop} {dst : Option Tmp} {ty : TypeId} {pos : String} {af : Array Edge} {g : Option (Nat × Bool)}
    (hn : ∀ v v' H' S' w', Keeps S S' w w' → St E γ S' H' w' → VRel S' w' v v' → K v H' → next (a.put dst v') w')
    (hq : ∀ v v' H' S' w', Keeps S S' w w' → St E γ S' H' w' → VRel S' w' v v' → Kp v H' → Q (.panic [{ v := v', recovered := false }]) a w') :
    Oper.wp E.P ⟨dst, o, ty, pos, af, g⟩ a w next Q := by
  have skip : ∀ {w' : World} {H' : Hp}, (execOp a.eval ⟨dst, o, ty, pos, af, g⟩).run E.P w = .ok .skip w' → Keeps S S w w' → St E γ S H' w' → K (.tup []) H' → Oper.wp E.P ⟨dst, o, ty, pos, af, g⟩ a w next Q := fun hr hk hs hK => by
    simp only [Oper.wp, hr, Oper.upon_skip]
    exact hn (.tup []) _ _ _ _ hk hs (by simp only [VRel]; exact ⟨[], rfl, by simp only [LRel]⟩) hK
  have quiet : (match aq E H fr o with | some v => K v H | none => False) → Oper.wp E.P ⟨dst, o, ty, pos, af, g⟩ a w next Q := fun h => by
    split at h
    · rename_i v hv
      obtain ⟨v', h1, h2⟩ := aq_sound hst hf hv dst ty pos af g
      simp only [Oper.wp, h1, Oper.upon_value]
      exact hn v v' H S w (hst.keeps (Ext.refl (fun _ => False) w) (fun _ h => h.elim) (fun _ h => h)) hst h2 h
    · exact h.elim
  have box : ∀ {cs : List AV} {vs : List Value} {e : TypeId}, LRel S w cs vs → (∀ b, H b = none → K (.ptr cs.length b 0 0) (upd H b (some (.rows cs.length [cs])))) →
      (execOp a.eval ⟨dst, o, ty, pos, af, g⟩).run E.P w = .ok (.value (.pointer (some ⟨w.heap.size, 0, none⟩))) (w.alloc (.cells vs.toArray e)) → Oper.wp E.P ⟨dst, o, ty, pos, af, g⟩ a w next Q := fun {cs vs e} hl hK hr => by
    have hlen := hl.length
    obtain ⟨f1, f2, f3⟩ := hst.newRows (e := e) (cs := vs.toArray) (sz := cs.length) (rows := [cs]) (vs := vs) (by simpa using hl) (by simp) (by simp [← hlen]) (by simp [hlen])
    simp only [Oper.wp, hr, Oper.upon_value]
    exact hn _ _ _ S _ f2 f3 (by simp only [VRel]; simp) (hK _ f1)
  unfold astep at h
  split at h
  · -- alloc
    rename_i t
    split at h <;> try (exact h.elim)
    rename_i p hp
    simp only [newObj, Option.bind_eq_some_iff, Option.map_eq_some_iff] at hp
    obtain ⟨ti, hti, cs, hcs, rfl⟩ := hp
    obtain ⟨z, hz, ez⟩ := run_zeroValue hti w
    have hl := cells_rel (VRel_avOf S w z) (by rw [← ez]; exact hcs)
    refine box (e := t) hl h ?_
    simp only [execOp, Instr.alloc, Sem.run_bind, hz, Result.andThen_ok, newVar, newRow, run_newObj, Sem.run_pure, Array.toArray_toList]
    rfl
  · -- box
    rename_i t x
    split at h <;> try (exact h.elim)
    rename_i p hp
    simp only [newObj, Option.map_eq_some_iff] at hp
    obtain ⟨cs, hcs, rfl⟩ := hp
    refine box (e := t) (cells_rel (ev_rel hst hf x) hcs) h ?_
    simp only [execOp, Instr.box, Sem.run_bind, Result.andThen_ok, newVar, newRow, run_newObj, Sem.run_pure, Array.toArray_toList]
    rfl
  · -- makeMap
    rename_i t r
    split at h <;> try (exact h.elim)
    rename_i p hp
    have hrun : (execOp a.eval ⟨dst, .makeMap t r, ty, pos, af, g⟩).run E.P w = .ok (.value (.map (some w.heap.size))) (w.alloc (.map #[] 0)) ∧ p = (fun b => .mp b, .amap []) := by
      simp only [newObj] at hp
      split at hp <;> first | (cases hp; done) | skip
      · rename_i ht hr
        cases hp
        cases r with
        | some x => simp at hr
        | none => refine ⟨?_, rfl⟩; simp only [execOp, Instr.makeMap, Option.map_none, Sem.run_bind, run_newObj, Result.andThen_ok, Sem.run_pure]; rfl
      · rename_i ht hr
        cases hp
        cases r with
        | none => simp at hr
        | some x =>
          simp only [Option.map_some, Option.some.injEq] at hr
          have hx := ev_rel hst hf x
          rw [hr] at hx
          simp only [VRel] at hx
          refine ⟨?_, rfl⟩
          simp only [execOp, Instr.makeMap, Option.map_some, Sem.run_bind, run_underlying (u_map ht), hx, asInt, asIntOf, run_newObj, Result.andThen_ok, Sem.run_pure]; rfl
    obtain ⟨hr, rfl⟩ := hrun
    obtain ⟨f1, f2, f3⟩ := hst.alloc (ob := .map #[] 0) (o := .amap []) (by simp only [ORel]; exact ⟨#[], 0, heap_alloc_new w _, by simp only [EsRel]⟩)
    simp only [Oper.wp, hr, Oper.upon_value]
    exact hn _ _ _ S _ f2 f3 (by simp only [VRel]) (h _ f1)
  · -- makeSlice
    rename_i t l c
    split at h <;> try (exact h.elim)
    rename_i p hp
    simp only [newObj] at hp
    split at hp <;> first | (cases hp; done) | skip
    rename_i _ _ _ _ k1 n1 k2 n2 ht e1 e2
    simp only [Option.bind_eq_some_iff, Option.ite_none_right_eq_some] at hp
    obtain ⟨te, hte, zc, hzc, ⟨hnn, c1, c2, c3, c4, c5⟩, hp⟩ := hp
    cases hp
    subst hnn
    have hl := ev_rel hst hf l
    have hc := ev_rel hst hf c
    rw [e1] at hl; rw [e2] at hc
    simp only [VRel] at hl hc
    obtain ⟨w', r1, r2, r3, r4, r5⟩ := run_make hst ht hte hzc c1 c2 c3 c4 c5 (k := k1) (k' := k2)
    have hr : (execOp a.eval ⟨dst, .makeSlice t l c, ty, pos, af, g⟩).run E.P w = .ok (.value (.slice (some ⟨w.heap.size, 0, none⟩) n1.toNat n1.toNat)) w' := by
      simp only [execOp, hl, hc, Sem.run_bind, r1, Result.andThen_ok, Sem.run_pure]
    simp only [Oper.wp, hr, Oper.upon_value]
    exact hn _ _ _ S _ r3 r4 r5 (h _ r2)
  · -- buildSlice
    rename_i t len parts
    split at h <;> try (exact h.elim)
    rename_i p hp
    simp only [alit] at hp
    split at hp <;> first | (cases hp; done) | skip
    rename_i el _ _ _ ht
    simp only [Option.bind_eq_some_iff, Option.ite_none_right_eq_some] at hp
    obtain ⟨te, hte, rows, hrows, ⟨hl, h24, hl24⟩, hp⟩ := hp
    cases hp
    obtain ⟨cs, r1, r2, r3⟩ := run_lit hst hf ht hte h24 hrows hl
    have hr : (execOp a.eval ⟨dst, .buildSlice t len parts, ty, pos, af, g⟩).run E.P w = .ok (.value (.slice (some ⟨w.heap.size, 0, none⟩) len len)) (w.alloc (.cells cs el)) := by
      simp only [execOp, Sem.run_bind, r1, Result.andThen_ok, Sem.run_pure]
    simp only [Oper.wp, hr, Oper.upon_value]
    have hmax : len ≤ maxLen := by simp only [maxLen]; omega
    rcases h with h | h
    · obtain ⟨f1, f2⟩ := hst.allocSealed (ob := .cells cs _)
      refine hn _ _ _ _ _ f1 f2 ?_ h
      simp only [VRel]
      refine ⟨_, len, by rw [hl], by rw [hl]; exact Nat.le_refl _, hmax, .inr ⟨w.heap.size, 0, rfl, .inr rfl, r3 _ f1⟩⟩
    · have hk : Keeps S S w (w.alloc (.cells cs el)) := hst.keeps (Ext.alloc (fun _ => False) w (.cells cs el) rfl) (fun _ h => h.elim) (fun _ h => h)
      obtain ⟨f1, f2, f3⟩ := hst.alloc (ob := .cells cs _) (o := .rows te.size rows) (by simp only [ORel]; exact ⟨cs, el, heap_alloc_new w _, by rw [r2, hl]; exact Nat.le_refl _, r3 S hk⟩)
      refine hn _ _ _ S _ f2 f3 ?_ (h _ f1)
      simp only [VRel]
      have := heap_alloc_new w (.cells cs el)
      exact ⟨len, el, rfl, by simp only [World.shape?, this, r2], Nat.le_refl _, hmax⟩
  · -- store
    rename_i t p x
    split at h <;> try (exact h.elim)
    rename_i q hq2
    simp only [astore] at hq2
    split at hq2 <;> first | (cases hq2; done) | skip
    rename_i e
    split at hq2 <;> first | (cases hq2; done) | skip
    rename_i hb
    simp only [Option.bind_eq_some_iff, Option.ite_none_right_eq_some] at hq2
    obtain ⟨row, hrow, ti, hti, cs, hcs, ⟨rfl, c1, c2, c3⟩, hq2⟩ := hq2
    cases hq2
    have hp := ev_rel hst hf p
    rw [e] at hp
    simp only [VRel] at hp
    obtain ⟨w', r1, r2, r3⟩ := run_store_rows hst hti hb hrow (ev_rel hst hf x) hcs c1 c2 c3
    refine skip ?_ r2 r3 h.2
    simp only [execOp, Instr.storeAt, hp, Instr.sureAddr, Sem.run_bind, Sem.run_pure, Result.andThen_ok, r1]
  · -- mapUpdate
    rename_i t m k x
    split at h <;> try (exact h.elim)
    rename_i q hq2
    simp only [amapset] at hq2
    split at hq2 <;> first | (cases hq2; done) | skip
    rename_i ht e1 e2
    split at hq2 <;> first | (cases hq2; done) | skip
    rename_i htk hb
    rw [Option.map_eq_some_iff] at hq2
    obtain ⟨es', hes, rfl⟩ := hq2
    have hm := ev_rel hst hf m
    have hk := ev_rel hst hf k
    rw [e1] at hm; rw [e2] at hk
    simp only [VRel] at hm hk
    obtain ⟨w', r1, r2, r3⟩ := run_mapUpdate hst ht htk hb (ev_rel hst hf x) hes
    refine skip ?_ r2 r3 h.2
    simp only [execOp, hm, hk, Sem.run_bind, r1, Result.andThen_ok, Sem.run_pure]
  · -- insert
    rename_i t m k x
    split at h <;> try (exact h.elim)
    rename_i q hq2
    simp only [amapset] at hq2
    split at hq2 <;> first | (cases hq2; done) | skip
    rename_i ht e1 e2
    split at hq2 <;> first | (cases hq2; done) | skip
    rename_i htk hb
    rw [Option.map_eq_some_iff] at hq2
    obtain ⟨es', hes, rfl⟩ := hq2
    have hm := ev_rel hst hf m
    have hk := ev_rel hst hf k
    rw [e1] at hm; rw [e2] at hk
    simp only [VRel] at hm hk
    obtain ⟨w', r1, r2, r3⟩ := run_mapUpdate hst ht htk hb (ev_rel hst hf x) hes
    refine skip ?_ r2 r3 h.2
    simp only [execOp, hm, hk, Sem.run_bind, r1, Result.andThen_ok, Sem.run_pure]
  · -- panic
    rename_i x
    split at h <;> try (exact h.elim)
    rename_i t v e
    have hx := ev_rel hst hf x
    have hx0 := hx
    rw [e] at hx
    have hx2 := hx
    simp only [VRel] at hx
    obtain ⟨u, hu, _⟩ := hx
    have hr : (execOp a.eval ⟨dst, .panic x, ty, pos, af, g⟩).run E.P w = .halt (.panic (a.eval x)) w := by
      rw [hu]
      simp [execOp, hu, Instr.panic]
    simp only [Oper.wp, hr, Oper.upon_panic]
    exact hq _ _ H S w (hst.keeps (Ext.refl (fun _ => False) w) (fun _ h => h.elim) (fun _ h => h)) hst (by rw [hu] at hx2 ⊢; exact hx2) h
  · -- append
    rename_i args ts
    have common : ∀ {sz by' : Nat} {sv : AV} {ys : List (List AV)}, aapp E H fr args ts = some (sz, by', sv, ys) → ∃ t e te s x, args = #[s, x] ∧ ts = #[t, t] ∧ AppOk E t e te ∧ te.size = sz ∧ te.bytes = by' ∧ ev E.G fr s = sv ∧ asrc H te.size (ev E.G fr x) = some ys ∧ ys.all (fun r => r.all one) = true := by
      intro sz by' sv ys hp
      simp only [aapp] at hp
      split at hp <;> first | (cases hp; done) | skip
      rename_i s x t u ea et
      split at hp <;> first | (cases hp; done) | skip
      rename_i ht
      simp only [Option.bind_eq_some_iff, Option.ite_none_right_eq_some] at hp
      obtain ⟨te, hte, ys', hys, ⟨rfl, c1, c2, c3⟩, hp⟩ := hp
      cases hp
      exact ⟨t, _, te, s, x, by rw [← Array.toArray_toList (xs := args), ea], by rw [← Array.toArray_toList (xs := ts), et], ⟨⟨_, _, _, ht⟩, hte, c1, c2⟩, rfl, rfl, rfl, hys, c3⟩
    split at h <;> try (exact h.elim)
    · rename_i sz by' ys hp
      obtain ⟨t, e, te, s, x, rfl, rfl, hok, rfl, rfl, es, hsrc, h1⟩ := common hp
      have hs := ev_rel hst hf s
      rw [es] at hs
      obtain ⟨v', w', H', v, r1, r2, r3, r4, r5⟩ := (run_append hst hok (ty := ty) hs (ev_rel hst hf x) hsrc h1).1 rfl h.1
      have hr : (execOp a.eval ⟨dst, .call ⟨.builtin .append, #[s, x], #[t, t]⟩, ty, pos, af, g⟩).run E.P w = .ok (.value v') w' := by
        simp [execOp, resolve, invoke, builtin, r1]
      simp only [Oper.wp, hr, Oper.upon_value]
      refine hn v v' H' S w' r2 r3 r4 ?_
      rcases r5 with ⟨e1, rfl, rfl⟩ | ⟨e1, b, hb, rfl, rfl⟩
      · exact h.2.1 e1
      · exact h.2.2 e1 b hb
    · rename_i sz by' sz' b len ys hp
      obtain ⟨t, e, te, s, x, rfl, rfl, hok, rfl, rfl, es, hsrc, h1⟩ := common hp
      split at h <;> try (exact h.elim)
      rename_i sz'' l hb
      obtain ⟨rfl, rfl, rfl, hbnd, _, hK⟩ := h
      have hs := ev_rel hst hf s
      rw [es] at hs
      obtain ⟨v', w', b', r1, r2, r3, r4, r5⟩ := (run_append hst hok (ty := ty) hs (ev_rel hst hf x) hsrc h1).2 b l rfl hb hbnd
      have hr : (execOp a.eval ⟨dst, .call ⟨.builtin .append, #[s, x], #[t, t]⟩, ty, pos, af, g⟩).run E.P w = .ok (.value v') w' := by
        simp [execOp, resolve, invoke, builtin, r1]
      simp only [Oper.wp, hr, Oper.upon_value]
      exact hn _ v' _ S w' r2 r4 r5 (hK b' r3)
  · -- a call
    rename_i f args ts
    split at h <;> try (exact h.elim)
    rename_i fn first cap e
    obtain ⟨args', H0, R, hsub, hcon, hhs, _, hK⟩ := h
    have hfn := ev_rel hst hf f
    rw [e] at hfn
    simp only [VRel] at hfn
    obtain ⟨vs, us, hfv, hvs, hus⟩ := hfn
    have hargs := hsub S w (vs ++ args.toList.map a.eval ++ us) ((hvs.append (LRel.map hst hf args.toList)).append hus)
    obtain ⟨fnc, hent, hname, hbody⟩ := hcon.1
    have hr : (execOp a.eval ⟨dst, .call ⟨.value f, args, ts⟩, ty, pos, af, g⟩).run E.P w = .ok (.enter fn (vs ++ args.toList.map a.eval ++ us).toArray) w := by
      have ea : vs.toArray ++ args.map a.eval ++ us.toArray = (vs ++ args.toList.map a.eval ++ us).toArray := by
        apply Array.ext'
        simp
      simp only [execOp, resolve, hfv, Deferred.ofValue, Sem.run_bind, Sem.run_pure, Result.andThen_ok, invoke, callFunc, run_program, hent, hname, hbody, Bool.false_eq_true, if_false, ea]
    simp only [Oper.wp, hr, Oper.upon_enter]
    refine (call_sound hst hcon hhs hargs).mono fun en w' ⟨ae, H', S', k1, k2, k3, k4, k5⟩ => ?_
    have hK2 := hK ae H' k4 k5
    cases ae with
    | ret v =>
      simp only [ERel] at k3
      obtain ⟨v', rfl, hv⟩ := k3
      exact hn v v' _ S' w' k1 k2 hv hK2
    | pan v =>
      simp only [ERel] at k3
      obtain ⟨v', rfl, hv⟩ := k3
      exact hq v v' _ S' w' k1 k2 hv hK2
  · exact quiet h
end
end Go.Al
