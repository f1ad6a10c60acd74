/- Chapter 18: a program among the arguments, and its bulk. -/
import Derived.Test.YtlokndnkpleegaaMz
import Derived.Test.YtlokndnkpleegaaSynB
import Derived.Test.YtlokndnkpleegaaRows
set_option linter.unusedSimpArgs false
set_option linter.unusedVariables false
set_option maxRecDepth 10000
namespace Go.Proofs.Ytlokndnkpleegaa
open Go.Al Go.ChangeShapes Go.WideShapes
def msum {α : Type} (m : α → Nat) : List α → Nat
  | [] => 0
  | a :: l => m a + msum m l
theorem bulk_one {H : Type} (d : DataW H) : 1 ≤ Rows.uptoBulk d := by
  cases d with
  | lit l => cases l <;> simp [Rows.uptoBulk]
  | nil => simp [Rows.uptoBulk]
  | ptr d => simp [Rows.uptoBulk]
  | slice elems spare => simp [Rows.uptoBulk]
  | agg parts => simp [Rows.uptoBulk]
  | iface t d => simp [Rows.uptoBulk]
  | map entries => simp [Rows.uptoBulk]
  | held h => simp [Rows.uptoBulk]
theorem bulk_len {H : Type} (l : List (DataW H)) : l.length ≤ Rows.uptoBulkAll l := by
  induction l with
  | nil => simp [Rows.uptoBulkAll]
  | cons x r ih => have := bulk_one x; simp only [Rows.uptoBulkAll, List.length_cons]; omega
section
variable {H : Type} {enc : TypeId × Value → H} {P : Program} {w : World} {sp : Nat → Bool} {held : Bool}
theorem sum_le {α β : Type} (m : α → Nat) : ∀ (l : List α) (E : List (DataW H × β)), l.length = E.length → (∀ (i : Nat) a y, l[i]? = some a → E[i]? = some y → m a ≤ Rows.uptoBulk y.1) → msum m l ≤ Rows.uptoBulkAll (E.map (·.1))
  | [], _, _, _ => by simp [msum]
  | a :: l, [], h, _ => by simp at h
  | a :: l, y :: E, h, hm => by
    have h0 := hm 0 a y rfl rfl
    have ih := sum_le m l E (by simpa using h) fun i b z h1 h2 => hm (i + 1) b z (by simpa using h1) (by simpa using h2)
    simp only [msum, List.map_cons, Rows.uptoBulkAll]; omega
theorem slice_openB {α : Type} (m : α → Nat) {row : α → List AV} {ok : α → Prop} {t e : TypeId} {sz fuel : Nat} {cs : List Value} {x : DataW H × List MemPlace} (ht : P.underlying t = some (.slice e)) (hc : P.cellsOf e = sz) (hz : 0 < sz)
    (hlen : ∀ a, (row a).length = sz) (h : DataW.trod enc P w 0 sp held fuel t cs = some x)
    (each : ∀ n cs y, n < fuel → DataW.trod enc P w 0 sp held n e cs = some y → ∃ a : α, ok a ∧ LRel (old w) w (row a) cs ∧ m a ≤ Rows.uptoBulk y.1) :
    ∃ l : List α, fitL l ∧ (∀ a ∈ l, ok a) ∧ (msum m l + 1 ≤ Rows.uptoBulk x.1 ∧ l.length + 1 ≤ Rows.uptoBulk x.1) ∧ ∃ v, cs = [v] ∧ VRel (old w) w (.isl sz (l.map row)) v := by
  rcases DataW.trod_slice ht h with ⟨rfl, rfl⟩ | ⟨a, len, cap, elems, rest, n, rfl, rfl, rfl, _, hl, hm, hel, hi, _, _⟩
  · refine ⟨[], by simp [fitL], by simp, ⟨by simp [msum, Rows.uptoBulk], by simp [Rows.uptoBulk]⟩, _, rfl, ?_⟩
    simp only [VRel, List.map_nil]
    exact ⟨none, 0, rfl, Nat.le_refl _, by simp [maxLen], .inl trivial⟩
  · have key : ∀ i, i < len → ∃ b : α, ok b ∧ (∀ y, elems[i]? = some y → m b ≤ Rows.uptoBulk y.1) ∧ ∃ ds : List Value, ds.length = sz ∧ LRel (old w) w (row b) ds ∧ ∀ j, j < sz → w.cell? ((a.add (i * sz)).add j) = ds[j]? := by
      intro i hil
      have h1 := hi i hil
      rw [hc, List.getElem?_eq_getElem (by omega), Option.bind_eq_some_iff] at h1
      obtain ⟨ds, hds, hy⟩ := h1
      obtain ⟨_, h3, h4⟩ := World.cells?_some hds
      obtain ⟨b, hb, hr, hmb⟩ := each n ds _ (by omega) hy
      exact ⟨b, hb, (fun y hy' => by rw [List.getElem?_eq_getElem (by omega)] at hy'; cases hy'; exact hmb), ds, h3, hr, h4⟩
    obtain ⟨l, hll, hget⟩ := list_of_each len key
    refine ⟨l, by simp only [fitL, hll]; simp only [maxLen] at hm; omega, fun b hb => ?_, ⟨?_, ?_⟩, _, rfl, ?_⟩
    · obtain ⟨i, hi2⟩ := List.getElem?_of_mem hb
      exact (hget i b hi2).1
    · have hsum := sum_le m l elems (by omega) fun i a y h1 h2 => (hget i a h1).2.1 y h2
      simp only [Rows.uptoBulk]; omega
    · have hll2 := bulk_len (elems.map (·.1))
      rw [List.length_map] at hll2
      simp only [Rows.uptoBulk]; omega
    · simp only [VRel, List.length_map, List.map_eq_nil_iff]
      refine ⟨some a, cap, by rw [hll], by omega, hm, ?_⟩
      by_cases hnil : l = []
      · exact .inl hnil
      · right
        obtain ⟨b0, l0, rfl⟩ : ∃ b0 l0, l = b0 :: l0 := by cases l with | nil => exact absurd rfl hnil | cons b l => exact ⟨b, l, rfl⟩
        obtain ⟨_, _, ds, hd1, _, hd3⟩ := hget 0 b0 rfl
        have h0 := hd3 0 hz
        rw [List.getElem?_eq_getElem (by omega)] at h0
        simp only [Nat.zero_mul, Addr.add, if_true] at h0
        have hspot : a.spot = none := by
          unfold World.cell? at h0
          split at h0
          · split at h0
            · cases h0
            · rename_i hs; cases hh : a.spot with | none => rfl | some y => rw [hh] at hs; simp at hs
          · cases h0
        have hblk : a.block < w.heap.size := by
          unfold World.cell? at h0
          split at h0
          · rename_i e; exact (Array.getElem?_eq_some_iff.1 e).1
          · cases h0
        obtain ⟨ab, ao, asp⟩ := a
        simp only at hspot hblk
        subst hspot
        refine ⟨ab, ao, rfl, hblk, RowsRel.of_get fun i r hr => ?_⟩
        rw [List.getElem?_map, Option.map_eq_some_iff] at hr
        obtain ⟨b, hb, rfl⟩ := hr
        obtain ⟨_, _, ds, h1, h2, h3⟩ := hget i b hb
        refine ⟨hlen b, RowRel.of_vals h2 fun j v hj => ?_⟩
        have hjl : j < sz := by have := (List.getElem?_eq_some_iff.1 hj).1; omega
        rw [← hj, ← h3 j hjl]
        congr 1
        simp only [Addr.add]
        by_cases e1 : i * sz = 0 <;> by_cases e2 : j = 0 <;> simp [e1, e2]
theorem strct_openB {t : TypeId} {fs : List (TypeId × Nat)} {fuel : Nat} {cs : List Value} {x : DataW H × List MemPlace} (ht : structOf P t = some fs) (h : DataW.trod enc P w 0 sp held fuel t cs = some x) :
    ∃ (xs : List (DataW H × List MemPlace)) (n : Nat), fuel = n + 1 ∧ cs.length = P.cellsOf t ∧ x.1 = .agg (xs.map (·.1)) ∧ xs.length = fs.length ∧ ∀ (i : Nat) ty off, fs[i]? = some (ty, off) → DataW.trod enc P w 0 sp held n ty ((cs.drop off).take (P.cellsOf ty)) = xs[i]? := by
  unfold structOf at ht
  split at ht
  · rename_i fa hu
    cases ht
    obtain ⟨xs, n, h1, h2, h3, h4, h5⟩ := DataW.trod_struct hu h
    refine ⟨xs, n, h1, h3, by rw [h2], by rw [h4]; simp, fun i ty off hi => ?_⟩
    rw [List.getElem?_map, Option.map_eq_some_iff] at hi
    obtain ⟨f, hf, e⟩ := hi
    simp only [Prod.mk.injEq] at e
    have h6 := h5 i f (by simpa using hf)
    rw [e.1, e.2] at h6
    exact h6
  · cases ht
theorem bulk5 {y0 y1 y2 y3 y4 : DataW H × List MemPlace} : Rows.uptoBulk (.agg ([y0, y1, y2, y3, y4].map (·.1))) = Rows.uptoBulk y0.1 + (Rows.uptoBulk y1.1 + (Rows.uptoBulk y2.1 + (Rows.uptoBulk y3.1 + Rows.uptoBulk y4.1))) + 1 := by
  simp [Rows.uptoBulk, Rows.uptoBulkAll]
theorem list5 {α : Type} {xs : List α} (h : xs.length = 5) : ∃ a b c d e, xs = [a, b, c, d, e] := by
  match xs, h with
  | [a, b, c, d, e], _ => exact ⟨a, b, c, d, e, rfl⟩
theorem list3 {α : Type} {xs : List α} (h : xs.length = 3) : ∃ a b c, xs = [a, b, c] := by
  match xs, h with
  | [a, b, c], _ => exact ⟨a, b, c, rfl⟩
end
theorem msumE : ∀ l : List Ex, msum (fun e => 2 * e.sz) l = 2 * szE l
  | [] => rfl
  | e :: l => by simp only [msum, szE, msumE l]; omega
theorem msumS : ∀ l : List Sm, msum (fun e => 2 * e.sz) l = 2 * szS l
  | [] => rfl
  | e :: l => by simp only [msum, szS, msumS l]; omega
def mF (f : Fu) : Nat := f.params.length + f.locs.length + 2 * szS f.body
theorem msumF {f : Fu} : ∀ {l : List Fu}, f ∈ l → mF f ≤ msum mF l
  | x :: l, h => by
    rcases List.mem_cons.1 h with rfl | h
    · simp only [msum]; omega
    · have := msumF h; simp only [msum]; omega
section
variable {H : Type} {enc : TypeId × Value → H} {P : Program} {w : World} {sp : Nat → Bool} {held : Bool} (T : Tys P)
theorem strs_openB {fuel : Nat} {cs : List Value} {x : DataW H × List MemPlace} (h : DataW.trod enc P w 0 sp held fuel T.strs cs = some x) : ∃ l : List Str, okN l ∧ l.length + 1 ≤ Rows.uptoBulk x.1 ∧ ∃ v, cs = [v] ∧ VRel (old w) w (strs l) v := by
  obtain ⟨l, h1, h2, ⟨_, h4⟩, h3⟩ := slice_openB (fun _ => 0) (row := strRow) (ok := fitL) T.uStrs (T.one1 (by simp)) (by decide) (fun _ => rfl) h fun n cs y _ hy => by
    obtain ⟨s, rfl, hs⟩ := str_open T.uStr hy
    exact ⟨s, hs, str_row s, Nat.zero_le _⟩
  exact ⟨l, ⟨h1, h2⟩, h4, h3⟩
theorem ex_openB : ∀ (fuel : Nat) (cs : List Value) (x : DataW H × List MemPlace), DataW.trod enc P w 0 sp held fuel T.ex cs = some x → ∃ e : Ex, e.ok ∧ LRel (old w) w e.row cs ∧ 2 * e.sz ≤ Rows.uptoBulk x.1 := by
  intro fuel
  induction fuel using Nat.strongRecOn with
  | _ fuel ih =>
    intro cs x h
    obtain ⟨xs, n, rfl, hl, hx, hxl, hf⟩ := strct_openB T.uEx h
    rw [T.cEx] at hl
    obtain ⟨a, b, c, d, e, rfl⟩ := five hl
    obtain ⟨y0, y1, y2, y3, y4, rfl⟩ := list5 hxl
    rw [hx, bulk5]
    have h0 := hf 0 _ _ rfl
    have h1 := hf 1 _ _ rfl
    have h2 := hf 2 _ _ rfl
    have h3 := hf 3 _ _ rfl
    have h4 := hf 4 _ _ rfl
    simp only [List.getElem?_cons_zero, List.getElem?_cons_succ] at h0 h1 h2 h3 h4
    rw [T.one1 (by simp)] at h0 h1 h2 h3 h4
    obtain ⟨k, e0, w0⟩ := int_open T.uInt h0
    obtain ⟨o, e1, w1⟩ := int_open T.uInt h1
    obtain ⟨m, e2, w2⟩ := int_open T.uU32 h2
    obtain ⟨s, e3, w3⟩ := str_open T.uStr h3
    obtain ⟨l, w4, w5, ⟨hm, _⟩, v, e4, hv⟩ := slice_openB (fun e => 2 * e.sz) (row := Ex.row) (ok := Ex.ok) T.uExs T.cEx (by decide) Ex.row_len h4 fun n' cs' y' hn hy => ih n' (by omega) cs' y' hy
    rw [msumE] at hm
    simp at e0 e1 e2 e3 e4
    subst e0; subst e1; subst e2; subst e3; subst e4
    refine ⟨.mk k o m s l, .mk k o m s l (wf_i64 w0) (wf_i64 w1) (wf_u32 w2) w3 w4 w5, ?_, ?_⟩
    · rw [Ex.row_eq]
      simp only [LRel, VRel, Ex.kind, Ex.op, Ex.num, Ex.name, Ex.kids]
      exact ⟨_, _, rfl, rfl, _, _, rfl, rfl, _, _, rfl, rfl, _, _, rfl, rfl, _, _, rfl, hv, rfl⟩
    · have := bulk_one y0.1
      simp only [Ex.sz]; omega
theorem exs_openB {fuel : Nat} {cs : List Value} {x : DataW H × List MemPlace} (h : DataW.trod enc P w 0 sp held fuel T.exs cs = some x) : ∃ l : List Ex, okE l ∧ 2 * szE l + 1 ≤ Rows.uptoBulk x.1 ∧ ∃ v, cs = [v] ∧ VRel (old w) w (exs l) v := by
  obtain ⟨l, h1, h2, ⟨h4, _⟩, h3⟩ := slice_openB (fun e => 2 * e.sz) (row := Ex.row) (ok := Ex.ok) T.uExs T.cEx (by decide) Ex.row_len h fun n cs y _ hy => ex_openB T n cs y hy
  rw [msumE] at h4
  exact ⟨l, ⟨h1, h2⟩, h4, h3⟩
theorem sm_openB : ∀ (fuel : Nat) (cs : List Value) (x : DataW H × List MemPlace), DataW.trod enc P w 0 sp held fuel T.sm cs = some x → ∃ e : Sm, e.ok ∧ LRel (old w) w e.row cs ∧ 2 * e.sz ≤ Rows.uptoBulk x.1 := by
  intro fuel
  induction fuel using Nat.strongRecOn with
  | _ fuel ih =>
    intro cs x h
    obtain ⟨xs, n, rfl, hl, hx, hxl, hf⟩ := strct_openB T.uSm h
    rw [T.cSm] at hl
    obtain ⟨a, b, c, d, e, rfl⟩ := five hl
    obtain ⟨y0, y1, y2, y3, y4, rfl⟩ := list5 hxl
    rw [hx, bulk5]
    have h0 := hf 0 _ _ rfl
    have h1 := hf 1 _ _ rfl
    have h2 := hf 2 _ _ rfl
    have h3 := hf 3 _ _ rfl
    have h4 := hf 4 _ _ rfl
    simp only [List.getElem?_cons_zero, List.getElem?_cons_succ] at h0 h1 h2 h3 h4
    rw [T.one1 (by simp)] at h0 h1 h2 h3 h4
    obtain ⟨k, e0, w0⟩ := int_open T.uInt h0
    obtain ⟨s, e1, w1⟩ := str_open T.uStr h1
    obtain ⟨l, w2, m2, v2, e2, hv2⟩ := exs_openB T h2
    obtain ⟨t, w3, w3', ⟨m3, _⟩, v3, e3, hv3⟩ := slice_openB (fun e => 2 * e.sz) (row := Sm.row) (ok := Sm.ok) T.uSms T.cSm (by decide) Sm.row_len h3 fun n' cs' y' hn hy => ih n' (by omega) cs' y' hy
    obtain ⟨u, w4, w4', ⟨m4, _⟩, v4, e4, hv4⟩ := slice_openB (fun e => 2 * e.sz) (row := Sm.row) (ok := Sm.ok) T.uSms T.cSm (by decide) Sm.row_len h4 fun n' cs' y' hn hy => ih n' (by omega) cs' y' hy
    rw [msumS] at m3 m4
    simp at e0 e1 e2 e3 e4
    subst e0; subst e1; subst e2; subst e3; subst e4
    refine ⟨.mk k s l t u, .mk k s l t u (wf_i64 w0) w1 w2 w3 w3' w4 w4', ?_, ?_⟩
    · rw [Sm.row_eq]
      simp only [LRel, VRel, Sm.kind, Sm.name, Sm.es, Sm.thn, Sm.els]
      exact ⟨_, _, rfl, rfl, _, _, rfl, rfl, _, _, rfl, hv2, _, _, rfl, hv3, _, _, rfl, hv4, rfl⟩
    · have := bulk_one y0.1
      simp only [Sm.sz]; omega
theorem sms_openB {fuel : Nat} {cs : List Value} {x : DataW H × List MemPlace} (h : DataW.trod enc P w 0 sp held fuel T.sms cs = some x) : ∃ l : List Sm, okS l ∧ 2 * szS l + 1 ≤ Rows.uptoBulk x.1 ∧ ∃ v, cs = [v] ∧ VRel (old w) w (sms l) v := by
  obtain ⟨l, h1, h2, ⟨h4, _⟩, h3⟩ := slice_openB (fun e => 2 * e.sz) (row := Sm.row) (ok := Sm.ok) T.uSms T.cSm (by decide) Sm.row_len h fun n cs y _ hy => sm_openB T n cs y hy
  rw [msumS] at h4
  exact ⟨l, ⟨h1, h2⟩, h4, h3⟩
theorem fu_openB (fuel : Nat) (cs : List Value) (x : DataW H × List MemPlace) (h : DataW.trod enc P w 0 sp held fuel T.fu cs = some x) : ∃ f : Fu, f.ok ∧ LRel (old w) w f.row cs ∧ mF f ≤ Rows.uptoBulk x.1 := by
  obtain ⟨xs, n, rfl, hl, hx, hxl, hf⟩ := strct_openB T.uFu h
  rw [T.cFu] at hl
  obtain ⟨a, b, c, d, e, rfl⟩ := five hl
  obtain ⟨y0, y1, y2, y3, y4, rfl⟩ := list5 hxl
  rw [hx, bulk5]
  have h0 := hf 0 _ _ rfl
  have h1 := hf 1 _ _ rfl
  have h2 := hf 2 _ _ rfl
  have h3 := hf 3 _ _ rfl
  have h4 := hf 4 _ _ rfl
  simp only [List.getElem?_cons_zero, List.getElem?_cons_succ] at h0 h1 h2 h3 h4
  rw [T.one1 (by simp)] at h0 h1 h2 h3 h4
  obtain ⟨s, e0, w0⟩ := str_open T.uStr h0
  obtain ⟨ps, w1, m1, v1, e1, hv1⟩ := strs_openB T h1
  obtain ⟨ls, w2, m2, v2, e2, hv2⟩ := strs_openB T h2
  obtain ⟨bw, e3, _⟩ := DataW.trod_bool T.uBool h3
  obtain ⟨l, w4, m4, v4, e4, hv4⟩ := sms_openB T h4
  simp at e0 e1 e2 e3 e4
  subst e0; subst e1; subst e2; subst e3; subst e4
  refine ⟨⟨s, ps, ls, bw, l⟩, ⟨w0, w1, w2, w4⟩, ?_, ?_⟩
  · simp only [Fu.row, LRel, VRel]
    exact ⟨_, _, rfl, rfl, _, _, rfl, hv1, _, _, rfl, hv2, _, _, rfl, rfl, _, _, rfl, hv4, rfl⟩
  · simp only [mF]; omega
theorem pg_openB {fuel : Nat} {cs : List Value} {x : DataW H × List MemPlace} (h : DataW.trod enc P w 0 sp held fuel T.pg cs = some x) : ∃ p : Pg, p.ok ∧ LRel (old w) w p.row cs ∧ ∀ f ∈ p.funs, mF f ≤ Rows.uptoBulk x.1 := by
  obtain ⟨xs, n, rfl, hl, hx, hxl, hf⟩ := strct_openB T.uPg h
  rw [T.cPg] at hl
  obtain ⟨a, b, c, rfl⟩ := three hl
  obtain ⟨y0, y1, y2, rfl⟩ := list3 hxl
  have h0 := hf 0 _ _ rfl
  have h1 := hf 1 _ _ rfl
  have h2 := hf 2 _ _ rfl
  simp only [List.getElem?_cons_zero, List.getElem?_cons_succ] at h0 h1 h2
  rw [T.one1 (by simp)] at h0 h1 h2
  obtain ⟨vs, w0, v0, e0, hv0⟩ := strs_open T h0
  obtain ⟨arl, w1, w1', v1, e1, hv1⟩ := slice_open (row := Ar.row) (ok := fun a => fitL a.name ∧ i64R a.size) T.uArs T.cAr (by decide) (fun _ => rfl) h1 fun n cs y _ hy => ar_open T n cs y hy
  obtain ⟨fs, w2, w2', ⟨m2, _⟩, v2, e2, hv2⟩ := slice_openB mF (row := Fu.row) (ok := Fu.ok) T.uFus T.cFu (by decide) (fun _ => rfl) h2 fun n cs y _ hy => fu_openB T n cs y hy
  simp at e0 e1 e2
  subst e0; subst e1; subst e2
  refine ⟨⟨vs, arl, fs⟩, ⟨w0, w1, w1', w2, w2'⟩, ?_, fun f hff => ?_⟩
  · simp only [Pg.row, LRel]
    exact ⟨_, _, rfl, hv0, _, _, rfl, hv1, _, _, rfl, hv2, rfl⟩
  · have : mF f ≤ msum mF fs := msumF hff
    rw [hx]
    simp only [List.map_cons, List.map_nil, Rows.uptoBulk, Rows.uptoBulkAll]
    omega
/-- A PROGRAM AMONG THE ARGUMENTS, of so much bulk. -/
theorem pg_argB {r : Reach} {b0 : Nat} {v : Value} {d : DataW H} {ps : List MemPlace} (hu : ∃ fs, P.underlying T.pg = some (.struct fs)) (hval : Value.okWide P w r b0 T.pg v) (hd : DataW.Trod enc P w 0 sp held T.pg v d ps) (hb : Rows.uptoBulk d ≤ 1048576) : ∃ p : Pg, Bulk p ∧ VRel (old w) w p.av v := by
  obtain ⟨fs, hu⟩ := hu
  obtain ⟨cs, rfl, _⟩ := okWide_struct hu hval
  obtain ⟨fuel, hf⟩ := hd
  obtain ⟨p, h1, h2, h3⟩ := pg_openB T hf
  refine ⟨p, ⟨h1, fun f hff => ?_⟩, ?_⟩
  · have := h3 f hff
    simp only [mF] at this
    omega
  · simp only [Pg.av, VRel]
    exact ⟨cs.toList, by simp, h2⟩
end
theorem two_arg {H : Type} {enc : TypeId × Value → H} {P : Program} {w : World} {sp : Nat → Bool} {held : Bool} {t e : TypeId} {r : Reach} {b0 : Nat} {v : Value} {d : DataW H} {ps : List MemPlace} (ht : P.underlying t = some (.array 2 e)) (he : P.underlying e = some (.int .u8)) (hc : P.cellsOf e = 1) (hct : P.cellsOf t = 2) (hval : Value.okWide P w r b0 t v) (hd : DataW.Trod enc P w 0 sp held t v d ps) :
    ∃ a b : Int, v = .agg #[.int .u8 a, .int .u8 b] ∧ (0 ≤ a ∧ a ≤ 255) ∧ (0 ≤ b ∧ b ≤ 255) := by
  simp only [Value.okWide, ht] at hval
  obtain ⟨cs, rfl, _⟩ := hval
  obtain ⟨fuel, hf⟩ := hd
  obtain ⟨xs, m, _, _, h3, h4, h5⟩ := DataW.trod_array ht hf
  have h0 := h5 0 (by decide)
  have h1 := h5 1 (by decide)
  rw [hct] at h3
  rw [hc] at h0 h1
  obtain ⟨y0, y1, rfl⟩ : ∃ a b, xs = [a, b] := by
    match xs, h4 with
    | [a, b], _ => exact ⟨a, b, rfl⟩
  have hcs : ∃ a b, cs.toList = [a, b] := two (show cs.toList.length = 2 from h3)
  obtain ⟨a, b, hab⟩ := hcs
  have hcs2 : cs = #[a, b] := by rw [← Array.toArray_toList (xs := cs), hab]
  subst hcs2
  replace h0 : DataW.trod enc P w 0 sp held m e [a] = some y0 := h0
  replace h1 : DataW.trod enc P w 0 sp held m e [b] = some y1 := h1
  obtain ⟨na, ea, wa⟩ := int_open he h0
  obtain ⟨nb, eb, wb⟩ := int_open he h1
  simp at ea eb
  subst ea; subst eb
  exact ⟨na, nb, rfl, Go.bounds_u8 wa, Go.bounds_u8 wb⟩
end Go.Proofs.Ytlokndnkpleegaa
