/- The little logic, eleventh part: append, make, maps. -/
import Derived.Test.YtcfapbmjaiipjaaDoorAlJ
set_option linter.unusedSimpArgs false
set_option linter.unusedVariables false
namespace Go.Al

/-- the rows of an appended slice -/
def asrc (H : Hp) (sz : Nat) : AV → Option (List (List AV))
  | .nsl => some []
  | .isl sz' l => if sz' = sz then some l else none
  | .osl sz' b len => match H b with
    | some (.rows sz'' l) => if sz' = sz ∧ sz'' = sz ∧ len ≤ l.length then some (l.take len) else none
    | _ => none
  | _ => none
section
variable {E : Env} {γ : Start} {S : Seal} {H : Hp} {w : World} {fr : Fr} {a : Act}
theorem asrc_spec (hst : St E γ S H w) {sz : Nat} {x : AV} {x' : Value} {ys : List (List AV)} (hx : VRel S w x x') (h : asrc H sz x = some ys) :
    ∃ oa cap news, x' = .slice oa ys.length cap ∧ LRel S w ys.flatten news ∧ news.length = ys.length * sz ∧ (∀ r ∈ ys, r.length = sz) ∧
      (ys = [] ∨ ∃ ad, oa = some ad ∧ ∀ (j : Nat) v, news[j]? = some v → w.cell? (ad.add j) = some v) := by
  have some_case : ∀ (b off : Nat) (cap : Nat) (l : List (List AV)), RowsRel S w b off sz l → x' = .slice (some ⟨b, off, none⟩) l.length cap →
      ∃ oa cap news, x' = .slice oa l.length cap ∧ LRel S w l.flatten news ∧ news.length = l.length * sz ∧ (∀ r ∈ l, r.length = sz) ∧
      (l = [] ∨ ∃ ad, oa = some ad ∧ ∀ (j : Nat) v, news[j]? = some v → w.cell? (ad.add j) = some v) := by
    intro b off cap l hr e
    obtain ⟨vs, h1, h2, h3⟩ := hr.vals
    refine ⟨_, cap, vs, e, h1, h2, fun r hrm => ?_, .inr ⟨_, rfl, fun j v hj => ?_⟩⟩
    · obtain ⟨i, hi⟩ := List.getElem?_of_mem hrm
      exact (RowsRel.get i hr hi).1
    · rw [Addr.add_lit]
      exact h3 j v hj
  cases x <;> simp only [asrc] at h <;> try (cases h; done)
  case isl sz' l =>
    split at h <;> cases h
    rename_i e
    subst e
    simp only [VRel] at hx
    obtain ⟨oa, cap, e, _, _, hr⟩ := hx
    rcases hr with rfl | ⟨b, off, rfl, _, hr⟩
    · exact ⟨oa, cap, [], e, by simp [LRel], by simp, by simp, .inl rfl⟩
    · exact some_case b off cap _ hr e
  case nsl =>
    cases h
    simp only [VRel] at hx
    exact ⟨none, 0, [], hx, by simp [LRel], by simp, by simp, .inl rfl⟩
  case osl sz' b len =>
    split at h <;> try (cases h; done)
    rename_i sz'' l hb
    split at h <;> cases h
    rename_i hc
    obtain ⟨rfl, rfl, hlen⟩ := hc
    have ho := (hst.obj b _ hb).1
    simp only [ORel] at ho
    obtain ⟨cur, e, _, _, hr⟩ := ho
    simp only [VRel] at hx
    obtain ⟨cap, e2, hx, _⟩ := hx
    have hl2 : (l.take len).length = len := by simp; omega
    exact some_case b 0 cap (l.take len) (hr.take len) (by rw [hl2]; exact hx)

/-- what is asked of an append -/
structure AppOk (E : Env) (t e : TypeId) (te : TI) : Prop where
  ht : ∃ s1 b1 z1, tinfo E.P t = some ⟨.slice e, s1, b1, z1⟩
  he : tinfo E.P e = some te
  hz : (cellsOf te.zero).map List.length = some te.size
  hb : 1 ≤ te.bytes

theorem St.drew (hst : St E γ S H w) : Keeps S S w w.drew ∧ St E γ S H w.drew := by
  have hx : Ext (fun _ => False) w w.drew := Ext.drew _ w
  exact ⟨hst.keeps hx (fun _ h => h.elim) (fun _ h => h), hst.step hx (fun _ h => h.elim) (fun _ h => h) (fun k hk => hst.lt k hk) (fun k hk => .inl hk) fun b o hb => ⟨(hst.obj b o hb).2.1, .inl ⟨hb, fun h => h⟩⟩⟩
theorem rows_all {S : Seal} {w : World} {ys : List (List AV)} {news : List Value} (h : LRel S w ys.flatten news) (h1 : ys.all (fun r => r.all one) = true) : ∀ v ∈ news, v.oneCell' = true :=
  one_cells h (by simpa [List.all_flatten] using h1)
theorem flatten_chunk {S : Seal} {w : World} {sz : Nat} : ∀ {ys : List (List AV)} {news : List Value} (i : Nat) {row : List AV}, LRel S w ys.flatten news → (∀ r ∈ ys, r.length = sz) → ys[i]? = some row → LRel S w row ((news.drop (i * sz)).take sz) := by
  intro ys news i row h hl hr
  have := (h.drop (i * sz)).take sz
  rwa [chunk ys i row hl hr] at this

/-- a new block with these rows ahead -/
theorem St.newRows (hst : St E γ S H w) {e : TypeId} {cs : Array Value} {sz : Nat} {rows : List (List AV)} {vs : List Value} (hl : LRel S w rows.flatten vs) (hr : ∀ r ∈ rows, r.length = sz) (hc : cs.toList.take (rows.length * sz) = vs) (hs : rows.length * sz ≤ cs.size) :
    H w.heap.size = none ∧ Keeps S S w (w.alloc (.cells cs e)) ∧ St E γ S (upd H w.heap.size (some (.rows sz rows))) (w.alloc (.cells cs e)) := by
  refine hst.alloc ?_
  simp only [ORel]
  refine ⟨cs, e, heap_alloc_new w _, hs, RowsRel.fresh (hst.keeps (Ext.alloc (fun _ => False) w (.cells cs e) rfl) (fun _ h => h.elim) (fun _ h => h)) hc fun i row hi => ?_⟩
  exact ⟨hr row (List.mem_of_getElem? hi), flatten_chunk i hl hr hi⟩

theorem run_append_none (P : Program) (t ty e : TypeId) (i : TypeInfo) (ht : P.underlying t = some (.slice e)) (hi : P.info? e = some i) (base : Option Addr) (n cap : Nat) (hc : n ≤ cap) (oa : Option Addr) (c : Nat) (w1 : World) :
    (Builtin.append_ #[t, t] ty #[.slice base n cap, .slice oa 0 c]).run P w1 = .ok (.slice base n cap) w1 := by
  cases base <;> cases oa <;> simp [Builtin.append_, run_underlying ht, sizeOf, typeInfo, hi, Builtin.lenOf, hc, Builtin.firstCells, loadCells, loadCellsFrom, storeCells]
theorem run_append_in (P : Program) (w1 : World) (t ty e e' : TypeId) (i : TypeInfo) (ht : P.underlying t = some (.slice e)) (hi : P.info? e = some i)
    (g sLen sCap : Nat) (cur : Array Value) (hg : w1.heap[g]? = some (.cells cur e' (0, 0)))
    (a : Addr) (m c : Nat) (news : List Value) (hl : news.length = m * i.size) (hnews : ∀ (j : Nat) u, news[j]? = some u → w1.cell? (a.add j) = some u) (h1 : ∀ u ∈ news, u.oneCell' = true)
    (hroom : sLen + m ≤ sCap) (hfit : sLen * i.size + news.length ≤ cur.size) :
    (Builtin.append_ #[t, t] ty #[.slice (some ⟨g, 0, none⟩) sLen sCap, .slice (some a) m c]).run P w1 =
      .ok (.slice (some ⟨g, 0, none⟩) (sLen + m) sCap) (w1.setRow g (cur.toList.take (sLen * i.size) ++ news ++ cur.toList.drop (sLen * i.size + news.length)).toArray) := by
  have hf := run_firstCells_some (P := P) w1 i.size m a m c news hl hnews
  have hst := run_storeCells_at P g (sLen * i.size) e' news 0 cur w1 hg (by simpa using hfit) h1
  simp only [Nat.add_zero] at hst
  simp [Builtin.append_, run_underlying ht, sizeOf, typeInfo, hi, Builtin.lenOf, hroom, hf, Addr.add_lit, hst]

theorem run_append (hst : St E γ S H w) {t e ty : TypeId} {te : TI} (hok : AppOk E t e te) {s x : AV} {s' x' : Value} {ys : List (List AV)} (hs : VRel S w s s') (hx : VRel S w x x') (hsrc : asrc H te.size x = some ys) (h1 : ys.all (fun r => r.all one) = true) :
    (s = .nsl → ys.length * te.bytes ≤ 140737488355328 → ∃ v' w' H' v, (Builtin.append_ #[t, t] ty #[s', x']).run E.P w = .ok v' w' ∧ Keeps S S w w' ∧ St E γ S H' w' ∧ VRel S w' v v' ∧
      ((ys = [] ∧ v = .nsl ∧ H' = H) ∨ (ys ≠ [] ∧ ∃ b, H b = none ∧ v = .osl te.size b ys.length ∧ H' = upd H b (some (.rows te.size ys))))) ∧
    (∀ b l, s = .osl te.size b l.length → H b = some (.rows te.size l) → (l.length + ys.length) * te.bytes ≤ 140737488355328 → ∃ v' w' b', (Builtin.append_ #[t, t] ty #[s', x']).run E.P w = .ok v' w' ∧ Keeps S S w w' ∧
      (b' = b ∨ H b' = none) ∧ St E γ S (upd (upd H b none) b' (some (.rows te.size (l ++ ys)))) w' ∧ VRel S w' (.osl te.size b' (l.length + ys.length)) v') := by
  obtain ⟨⟨s1, b1, z1, ht⟩, he, hz, hb1⟩ := hok
  obtain ⟨oa, xcap, news, rfl, hn1, hn2, hn3, hfirst⟩ := asrc_spec hst hx hsrc
  have htu := u_slice ht
  obtain ⟨d, i, z, hd, hi, hzi, hte⟩ := tinfo_spec he
  have es : te.size = i.size := by rw [hte]
  have eb : te.bytes = i.bytes := by rw [hte]
  rw [es] at hn2 hn3 hz
  rw [eb] at hb1
  rw [es, eb]
  have hzs : z.cells.size = i.size := by
    rw [Option.map_eq_some_iff] at hz
    obtain ⟨cs, hc, hcl⟩ := hz
    rw [hte] at hc
    have := (cells_rel (VRel_avOf S w z) hc).length
    simp at this
    omega
  have hdw := hst.drew
  -- the new block
  have grow : ∀ (olds : List Value) (l : List (List AV)) (old : Nat), LRel S w l.flatten olds → (∀ r ∈ l, r.length = i.size) → l.length + ys.length ≤ maxLen →
      H w.heap.size = none ∧ Keeps S S w (w.drew.alloc (.cells (olds.toArray ++ news.toArray ++ Builtin.zeroCells z.cells (grownCap w (l.length + ys.length) old e - (l.length + ys.length))) e)) ∧
      (∀ H', (∀ b o, H' b = some o → H b = some o) → St E γ S (upd H' w.heap.size (some (.rows i.size (l ++ ys)))) (w.drew.alloc (.cells (olds.toArray ++ news.toArray ++ Builtin.zeroCells z.cells (grownCap w (l.length + ys.length) old e - (l.length + ys.length))) e))) ∧
      VRel S (w.drew.alloc (.cells (olds.toArray ++ news.toArray ++ Builtin.zeroCells z.cells (grownCap w (l.length + ys.length) old e - (l.length + ys.length))) e)) (.osl i.size w.heap.size (l.length + ys.length)) (.slice (some ⟨w.heap.size, 0, none⟩) (l.length + ys.length) (grownCap w (l.length + ys.length) old e)) := by
    intro olds l old ho hol hmax
    have hge := grownCap_ge w (l.length + ys.length) old e
    have hcm := grownCap_le_maxLen w (l.length + ys.length) old e hmax
    have hall : ∀ r ∈ l ++ ys, r.length = i.size := fun r hr => by
      rcases List.mem_append.1 hr with h | h
      · exact hol r h
      · exact hn3 r h
    have hlen := flatten_len (l ++ ys) hall
    have hrel : LRel S w.drew (l ++ ys).flatten (olds ++ news) := by
      rw [List.flatten_append]
      exact (LRel.mono hdw.1 _ _ ho).append (LRel.mono hdw.1 _ _ hn1)
    have hvl := hrel.length
    have hsize : (olds.toArray ++ news.toArray ++ Builtin.zeroCells z.cells (grownCap w (l.length + ys.length) old e - (l.length + ys.length))).size = grownCap w (l.length + ys.length) old e * i.size := by
      have h5 : (olds ++ news).length = (l.length + ys.length) * i.size := by rw [hvl, hlen, List.length_append]
      rw [List.length_append] at h5
      simp only [Array.size_append, List.size_toArray, size_zeroCells, hzs]
      rw [Nat.sub_mul, h5]
      have := Nat.mul_le_mul_right i.size hge
      omega
    have hfull := fun H' (hH' : ∀ b o, H' b = some o → H b = some o) => St.newRows (e := e) (cs := olds.toArray ++ news.toArray ++ Builtin.zeroCells z.cells (grownCap w (l.length + ys.length) old e - (l.length + ys.length))) (sz := i.size) (rows := l ++ ys) (vs := olds ++ news)
      (hst := hdw.2.step (Ext.refl (fun _ => False) _) (fun _ h => h.elim) (fun _ h => h) (fun k hk => hst.lt k hk) (fun k hk => .inl hk) (H' := H') fun b o hb => ⟨(hst.obj b o (hH' b o hb)).2.1, .inl ⟨hH' b o hb, fun h => h⟩⟩)
      hrel hall (by
        have hq : (l ++ ys).length * i.size = (olds ++ news).length := by rw [hvl, hlen]
        rw [hq]
        simp only [Array.toList_append, List.append_assoc]
        rw [← List.append_assoc]
        exact List.take_left) (by rw [hsize, List.length_append]; exact Nat.mul_le_mul_right _ hge)
    obtain ⟨f1, f2, f3⟩ := hfull H (fun _ _ h => h)
    refine ⟨f1, ⟨fun k hk => (f2.heap k hk), f2.shp, f2.sub⟩, fun H' hH' => (hfull H' hH').2.2, ?_⟩
    simp only [VRel]
    refine ⟨_, e, rfl, ?_, hge, hcm⟩
    have := heap_alloc_new w.drew (.cells (olds.toArray ++ news.toArray ++ Builtin.zeroCells z.cells (grownCap w (l.length + ys.length) old e - (l.length + ys.length))) e)
    simp only [World.size_drew] at this
    simp only [World.shape?, this, hsize]
  constructor
  · rintro rfl hbnd
    simp only [VRel] at hs
    subst hs
    have hm : ys.length ≤ 140737488355328 := Nat.le_trans (Nat.le_mul_of_pos_right _ hb1) hbnd
    rcases hfirst with rfl | ⟨ad, rfl, hcell⟩
    · exact ⟨.slice none 0 0, w, H, .nsl, run_append_none E.P t ty e i htu hi none 0 0 (Nat.le_refl _) oa xcap w, hst.keeps (Ext.refl (fun _ => False) w) (fun _ h => h.elim) (fun _ h => h), hst, by simp only [VRel], .inl ⟨rfl, rfl, rfl⟩⟩
    · by_cases hyn : ys = []
      · subst hyn
        exact ⟨.slice none 0 0, w, H, .nsl, run_append_none E.P t ty e i htu hi none 0 0 (Nat.le_refl _) _ xcap w, hst.keeps (Ext.refl (fun _ => False) w) (fun _ h => h.elim) (fun _ h => h), hst, by simp only [VRel], .inl ⟨rfl, rfl, rfl⟩⟩
      · have hpos : 0 < ys.length := List.length_pos_iff.2 hyn
        obtain ⟨g1, g2, g3, g4⟩ := grow [] [] 0 (by simp [LRel]) (by simp) (by simp [maxLen]; omega)
        simp only [List.length_nil, Nat.zero_add, List.nil_append] at g2 g3 g4
        refine ⟨_, _, _, _, ?_, g2, g3 H (fun _ _ h => h), g4, .inr ⟨hyn, _, g1, rfl, rfl⟩⟩
        have := run_append_nil (P := E.P) w t ty e i z htu hi hzi ad ys.length xcap news hn2 hcell hpos (by omega) (by omega)
        rw [this]
        congr 2
        congr 2
        simp
  · rintro b l rfl hb hbnd
    simp only [VRel] at hs
    obtain ⟨cap, e3, rfl, hsh, hlc, hcm⟩ := hs
    have hm : l.length + ys.length ≤ 140737488355328 := Nat.le_trans (Nat.le_mul_of_pos_right _ hb1) hbnd
    have ho := (hst.obj b _ hb).1
    simp only [ORel] at ho
    obtain ⟨cur, e4, hcur, hsz, hr⟩ := ho
    have hcs : cur.size = cap * i.size := by
      simp only [World.shape?, hcur, Option.some.injEq, Prod.mk.injEq] at hsh
      exact hsh.2
    obtain ⟨olds, o1, o2, o3⟩ := hr.vals
    have hol : ∀ r ∈ l, r.length = i.size := fun r hrm => by
      obtain ⟨k, hk⟩ := List.getElem?_of_mem hrm
      exact (RowsRel.get k hr hk).1
    -- in place
    have inplace : ∀ hroom : l.length + ys.length ≤ cap, ∃ cs : Array Value, cs = (cur.toList.take (l.length * i.size) ++ news ++ cur.toList.drop (l.length * i.size + news.length)).toArray ∧ Keeps S S w (w.setRow b cs) ∧
        St E γ S (upd (upd H b none) b (some (.rows i.size (l ++ ys)))) (w.setRow b cs) ∧ VRel S (w.setRow b cs) (.osl i.size b (l.length + ys.length)) (.slice (some ⟨b, 0, none⟩) (l.length + ys.length) cap) := by
      intro hroom
      have hmul := Nat.mul_le_mul_right i.size hroom
      rw [Nat.add_mul] at hmul
      have hfit : l.length * i.size + news.length ≤ cur.toList.length := by rw [hn2]; simp; omega
      have hget := splice_get cur.toList news (l.length * i.size) hfit
      refine ⟨_, rfl, ?_⟩
      have hsize : (cur.toList.take (l.length * i.size) ++ news ++ cur.toList.drop (l.length * i.size + news.length)).toArray.size = cur.size := by
        simp at hfit ⊢; omega
      have hall : ∀ r ∈ l ++ ys, r.length = i.size := fun r hrm => by
        rcases List.mem_append.1 hrm with h | h
        · exact hol r h
        · exact hn3 r h
      have hset := hst.setRow (l' := l ++ ys) hb hcur hsize (by rw [hsize, hcs, List.length_append]; exact Nat.mul_le_mul_right _ hroom) fun k row hk => by
        refine ⟨hall row (List.mem_of_getElem? hk), ?_⟩
        rw [List.getElem?_append] at hk
        split at hk
        · rename_i hkl
          obtain ⟨g1, g2⟩ := RowsRel.get k hr hk
          have hold := RowRel.cells hcur g2
          rw [g1, Nat.zero_add] at hold
          have hkm := Nat.mul_le_mul_right i.size (show k + 1 ≤ l.length from hkl)
          rw [Nat.add_mul, Nat.one_mul] at hkm
          have e2 : (List.drop (k * i.size) (cur.toList.take (l.length * i.size) ++ news ++ cur.toList.drop (l.length * i.size + news.length))).take i.size = (cur.toList.drop (k * i.size)).take i.size := by
            apply List.ext_getElem?
            intro q
            rw [List.getElem?_take, List.getElem?_take, List.getElem?_drop, List.getElem?_drop, hget]
            split
            · rw [if_pos (by omega)]
            · rfl
          rw [e2]; exact hold
        · rename_i hkl
          have hrel := flatten_chunk (k - l.length) hn1 hn3 hk
          have e2 : (List.drop (k * i.size) (cur.toList.take (l.length * i.size) ++ news ++ cur.toList.drop (l.length * i.size + news.length))).take i.size = (news.drop ((k - l.length) * i.size)).take i.size := by
            have hk2 : k - l.length < ys.length := (List.getElem?_eq_some_iff.1 hk).1
            have hk3 := Nat.mul_le_mul_right i.size (show k - l.length + 1 ≤ ys.length from hk2)
            have hk4 : k * i.size = l.length * i.size + (k - l.length) * i.size := by rw [← Nat.add_mul]; congr 1; omega
            rw [Nat.add_mul, Nat.one_mul] at hk3
            apply List.ext_getElem?
            intro q
            rw [List.getElem?_take, List.getElem?_take, List.getElem?_drop, List.getElem?_drop, hget]
            split
            · rw [if_neg (by omega), if_pos (by omega)]; congr 1; omega
            · rfl
          rw [e2]; exact hrel
      refine ⟨hset.1, ?_, ?_⟩
      · have : upd (upd H b none) b (some (.rows i.size (l ++ ys))) = upd H b (some (.rows i.size (l ++ ys))) := by
          funext k; simp only [upd]; split <;> rfl
        rw [this]; exact hset.2
      · simp only [VRel]
        exact ⟨cap, e3, rfl, hset.1.shp _ _ hsh, hroom, hcm⟩
    -- grown
    have grown : H w.heap.size = none ∧ _ := grow olds l cap o1 hol (by simp [maxLen]; omega)
    obtain ⟨g1, g2, g3, g4⟩ := grown
    have hsub : ∀ b' o, upd H b none b' = some o → H b' = some o := fun b' o h => by
      simp only [upd] at h
      split at h
      · cases h
      · exact h
    rcases hfirst with rfl | ⟨ad, rfl, hcell⟩
    · obtain ⟨cs, hcs2, i1, i2, i3⟩ := inplace (by simpa using hlc)
      have hself : w.setRow b cs = w := by
        subst hcs2
        have hnn : news = [] := List.eq_nil_of_length_eq_zero (by simpa using hn2)
        subst hnn
        simp only [List.append_nil, List.length_nil, Nat.add_zero, List.take_append_drop, Array.toArray_toList]
        exact setRow_self w b cur e4 (0, 0) hcur
      rw [hself] at i1 i2 i3
      exact ⟨_, w, b, run_append_none E.P t ty e i htu hi _ _ _ hlc oa xcap w, i1, .inl rfl, i2, by simpa using i3⟩
    · by_cases hroom : l.length + ys.length ≤ cap
      · obtain ⟨cs, hcs2, i1, i2, i3⟩ := inplace hroom
        refine ⟨_, _, b, ?_, i1, .inl rfl, i2, i3⟩
        have hmul := Nat.mul_le_mul_right i.size hroom
        rw [Nat.add_mul] at hmul
        rw [hcs2]
        exact run_append_in E.P w t ty e e4 i htu hi b l.length cap cur hcur ad ys.length xcap news hn2 hcell (rows_all hn1 h1) hroom (by rw [hn2, hcs]; omega)
      · refine ⟨_, _, w.heap.size, ?_, g2, .inr g1, g3 _ hsub, g4⟩
        exact run_append_grow (P := E.P) w t ty e i z htu hi hzi ⟨b, 0, none⟩ l.length cap olds o2 (fun j v hj => by rw [Addr.add_lit]; exact o3 j v hj) ad ys.length xcap news hn2 hcell (by omega) (by omega) (growslice_fits (by omega) hbnd)
end
end Go.Al
