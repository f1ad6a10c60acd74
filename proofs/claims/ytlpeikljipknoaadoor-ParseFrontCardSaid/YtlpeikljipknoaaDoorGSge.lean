/- Chapter 15: is a program small, and may it be? A program among the arguments, its lists' lengths too. Chapter 15: how long the lists are that a machine hands in. -/
import Derived.Test.YtlpeikljipknoaaDoorGSfe
import Derived.SizedLaws
set_option linter.unusedSimpArgs false
set_option linter.unusedVariables false
set_option maxRecDepth 10000
namespace Go.Proofs.YtlpeikljipknoaaDoor
open Go.Al
theorem few5_con (p : Pg) (hp : p.ok) (hl : Lim p) (most : Nat) (hm : most ≤ 1000) : PCon env 36 [p.av, .int .i64 (most : Nat)] (.bool (fewQ p most)) := by
  generalize hres : fewQ p most = res
  have hres2 : decide (0 < goL lvF p.funs ((most : Int) - p.vars.length - p.arrs.length - p.funs.length)) = res := hres
  clear hres
  obtain ⟨b1, b2, b3, b4⟩ := hl
  have hfs := hp.funs
  obtain ⟨vs, aa, fs⟩ := p
  simp only at b1 b2 b3 b4
  simp only at hres2 hfs
  have z1 : IntKind.wrap .i64 ((most : Int) - (vs.length : Int)) = (most : Int) - vs.length := IntWalk.i64_in _ (by omega)
  have z2 : IntKind.wrap .i64 ((most : Int) - vs.length - (aa.length : Int)) = (most : Int) - vs.length - aa.length := IntWalk.i64_in _ (by omega)
  have z3 : IntKind.wrap .i64 ((most : Int) - vs.length - aa.length - (fs.length : Int)) = (most : Int) - vs.length - aa.length - fs.length := IntWalk.i64_in _ (by omega)
  have hx0 : (most : Int) - vs.length - aa.length - fs.length ≤ 1000 := by omega
  simp only [Pg.av, Pg.row]
  refine con_of 54 [.tmp 4] Tryd.func36 rfl rfl rfl rfl ?_
  refine awp_seq_k fun K hK => ?_
  refine awp_region rfl ?_
  simp only [List.length_map, z1, z2, z3, RR, seval]
  refine awpN_intro fun b2 hn2 => ?_
  simp only [List.length_map, z1, z2, z3, RR, seval]
  refine hK _ _ ?_; clear hK K
  refine awp_seq_k fun K hK => ?_
  refine awp_region rfl ?_
  simp only [List.length_map, z1, z2, z3, RR, seval]
  refine hK _ _ ?_; clear hK K
  refine awp_seq ?_
  refine awp_seq_k fun K hK => ?_
  refine awp_region rfl ?_
  simp only [List.length_map, z1, z2, z3, RR, seval]
  refine hK _ _ ?_; clear hK K
  refine awp_name fun F1 M1 hfr hH => ?_
  have g2 := hfr 2
  have g4 := hfr 4
  have g5 := hfr 5
  have g6 := hfr 6
  have gb2 := hH b2
  try simp only [List.length_map, z1, z2, z3, RR, seval] at g2 g4 g5 g6 gb2
  have f2 := g2; clear g2
  have f4 := g4; clear g4
  have f5 := g5; clear g5
  have f6 := g6; clear g6
  have hb2 := gb2; clear gb2
  clear hfr hH
  refine awp_block ?_
  refine awp_while [2, 4] (fs.length) (fun m fr M => M b2 = M1 b2 ∧ (∃ (k : Nat) (x : Int), m = fs.length - k ∧ k ≤ fs.length ∧ fr 5 = .int .i64 x ∧ fr 6 = .int .i64 k ∧ decide (0 < goL lvF (fs.drop k) x) = res ∧ x ≤ (most : Int) - fs.length)) ⟨rfl, 0, _, rfl, Nat.zero_le _, f5, f6, hres2, by omega⟩ ?_
  rintro m F2 M2 ⟨gb2, k, x, rfl, hk, f5, f6, hr, hx⟩ agx K0 hK0
  have f2 := (agx 2 rfl).trans f2
  have f4 := (agx 4 rfl).trans f4
  have hb2 := gb2.trans hb2
  have ag0 := agree.refl [2, 4] F2
  have e0_b2 := gb2; clear gb2
  clear agx
  all_goals
    refine awp_seq ?_
    refine awp_seq_k fun K hK => ?_
    refine awp_region rfl ?_
    simp only [f2, f5, f6, hb2, List.length_map, z1, z2, z3, RR, seval]
    repeat' ((first | refine awpG_splitN (fun h => ?_) (fun h => ?_) | refine awpG_split (fun h => ?_) (fun h => ?_)) <;> simp only [h, f2, f4, f5, f6, hb2, List.length_map, z1, z2, z3, RR, seval])
    all_goals
      refine hK _ _ ?_; clear hK K
      refine awp_if _ rfl (fun hc => ?_) (fun hc => ?_)
      · try (cases hc; done)
        all_goals
          have hw0 := hc; clear hc
          have hlt : k < fs.length := by have := of_decide_eq_true h; omega
          have hx1 : 0 < x := of_decide_eq_true hw0
          have hge := getF (List.getElem?_eq_getElem hlt)
          have hoe := (hfs _ (List.getElem_mem hlt)).body
          have hbe := b4 _ (List.getElem_mem hlt)
          rw [goL_step hlt hx1] at hr
          generalize fs[k] = f at hge hoe hbe hr
          have hw1 := i64_inc (n := k) (by omega)
          have hq := lvF_le f x
          have y1 : IntKind.wrap .i64 (x - (f.params.length : Int)) = x - f.params.length := IntWalk.i64_in _ (by omega)
          have y2 : IntKind.wrap .i64 (x - f.params.length - (f.locs.length : Int)) = x - f.params.length - f.locs.length := IntWalk.i64_in _ (by omega)
          refine awp_skip ?_; try simp only [RR]
          refine awp_seq ?_
          refine awp_block ?_
          refine awp_seq_k fun K hK => ?_
          refine awp_region rfl ?_
          simp only [f2, f6, hb2, List.length_map, z1, z2, z3, hge, hw1, y1, y2, RR, seval]
          refine awpN_intro fun b7 hn7 => ?_
          have nb7_b2 : b7 ≠ b2 := fun e => by rw [e] at hn7; simp only [hb2, RR, seval, reduceCtorEq] at hn7
          have nb2_b7 : b2 ≠ b7 := fun e => nb7_b2 e.symm
          simp only [f2, f6, hb2, nb7_b2, nb2_b7, List.length_map, z1, z2, z3, hge, hw1, y1, y2, RR, seval]
          refine hK _ _ ?_; clear hK K
          refine awp_seq_k fun K hK => ?_
          refine awp_region rfl ?_
          simp only [f5, hb2, nb7_b2, nb2_b7, List.length_map, z1, z2, z3, hge, hw1, y1, y2, RR, seval]
          refine hK _ _ ?_; clear hK K
          refine awp_seq_k fun K hK => ?_
          refine awp_region rfl ?_
          simp only [f5, List.length_map, z1, z2, z3, hge, hw1, y1, y2, RR, seval]
          refine hK _ _ ?_; clear hK K
          refine awp_name fun F3 M3 hfr hH => ?_
          have g2 := hfr 2
          have g4 := hfr 4
          have g5 := hfr 5
          have g6 := hfr 6
          have g7 := hfr 7
          have g47 := hfr 47
          have gb2 := hH b2
          have gb7 := hH b7
          try simp only [f2, f4, f5, f6, hb2, nb7_b2, nb2_b7, List.length_map, z1, z2, z3, hge, hw1, y1, y2, RR, seval] at g2 g4 g5 g6 g7 g47 gb2 gb7
          have ag0 : agree [2, 4] F2 F3 := agree.same hfr (by repeat (first | exact ag0 | refine agree.upd rfl ?_))
          have e0_b2 := (hH b2).trans (by first | exact e0_b2 | (simp only [nb7_b2, nb2_b7, upd_app, seval]; first | done | exact e0_b2))
          have f2 := g2; clear g2
          have f4 := g4; clear g4
          have f5 := g5; clear g5
          have f6 := g6; clear g6
          have f7 := g7; clear g7
          have f47 := g47; clear g47
          have hb2 := gb2; clear gb2
          have hb7 := gb7; clear gb7
          clear hfr hH
          refine awp_cutP (fun fr M => agree [2, 4, 6, 7] F3 fr ∧ M b2 = M3 b2 ∧ M b7 = M3 b7 ∧ fr 5 = .int .i64 (lvF f x)) (fun KC7 hKC7 => ?_) ?_
          · have agC7 := agree.refl [2, 4, 6, 7] F3
            have eC7_b2 : M3 b2 = M3 b2 := rfl
            have eC7_b7 : M3 b7 = M3 b7 := rfl
            refine awp_if _ (by first | rfl | exact f47) (fun hc7 => ?_) (fun hc7 => ?_)
            · refine awp_region rfl ?_
              simp only [f5, f7, hb2, hb7, nb7_b2, nb2_b7, List.length_map, z1, z2, z3, hge, hw1, y1, y2, RR, seval]
              refine awpC_pure' (stmts5_con 40 (by omega) f.body (x - f.params.length - f.locs.length) hoe (by have := of_decide_eq_true hc7; omega) (by omega)) ?_
              simp only [f5, f7, hb2, hb7, nb7_b2, nb2_b7, List.length_map, z1, z2, z3, hge, hw1, y1, y2, RR, seval]
              refine hKC7 _ _ ⟨(by repeat (first | exact agC7 | refine agree.upd rfl ?_)), (by first | exact eC7_b2 | (simp only [nb7_b2, nb2_b7, upd_app, seval]; first | done | exact eC7_b2)), (by first | exact eC7_b7 | (simp only [nb7_b2, nb2_b7, upd_app, seval]; first | done | exact eC7_b7)), ?_⟩
              first | (rw [lvF, if_pos (of_decide_eq_true hc7)]; rfl) | (rw [lvF, if_neg (of_decide_eq_false hc7)]; exact f5)
            · refine awp_skip ?_; try simp only [RR]
              refine hKC7 _ _ ⟨(by repeat (first | exact agC7 | refine agree.upd rfl ?_)), (by first | exact eC7_b2 | (simp only [nb7_b2, nb2_b7, upd_app, seval]; first | done | exact eC7_b2)), (by first | exact eC7_b7 | (simp only [nb7_b2, nb2_b7, upd_app, seval]; first | done | exact eC7_b7)), ?_⟩
              first | (rw [lvF, if_pos (of_decide_eq_true hc7)]; rfl) | (rw [lvF, if_neg (of_decide_eq_false hc7)]; exact f5)
          rintro F4 M4 ⟨agx, gb2, gb7, f5⟩
          have f2 := (agx 2 rfl).trans f2
          have f4 := (agx 4 rfl).trans f4
          have f6 := (agx 6 rfl).trans f6
          have f7 := (agx 7 rfl).trans f7
          have hb2 := gb2.trans hb2
          have hb7 := gb7.trans hb7
          have ag0 : agree [2, 4] F2 F4 := agree.sub agx rfl ag0
          have e0_b2 := gb2.trans e0_b2
          clear agx
          clear gb2
          clear gb7
          simp only [RR, seval]
          refine awp_region rfl ?_
          simp only [f6, List.length_map, z1, z2, z3, hge, hw1, y1, y2, RR, seval]
          try rw [IntWalk.i64_in _ (by omega)]
          refine hK0 (fs.length - (k + 1)) _ _ (by omega) ⟨(by first | exact e0_b2 | (simp only [nb7_b2, nb2_b7, upd_app, seval]; first | done | exact e0_b2)), k + 1, _, rfl, hlt, f5, rfl, hr, by omega⟩ (by repeat (first | exact ag0 | refine agree.upd rfl ?_))
      · try (cases hc; done)
        all_goals
          have hw0 := hc; clear hc
          have hend : decide (0 < x) = res := by
            first
              | (have hx0 := of_decide_eq_false hw0; rw [goL_no lvF _ (by omega)] at hr; exact hr)
              | (have hk2 := of_decide_eq_false h; rw [List.drop_eq_nil_of_le (by omega)] at hr; exact hr)
          refine awp_exit ?_; simp only [RR, seval]
          refine awp_seq_k fun K hK => ?_
          refine awp_region rfl ?_
          simp only [f5, List.length_map, z1, z2, z3, RR, seval]
          refine hK _ _ ?_; clear hK K
          refine awp_ret ?_; simp only [bodyQ, aresult, ares, f4, List.length_map, z1, z2, z3, RR, seval]
          refine Gives.pure ?_
          rw [hend]
structure Sml (p : Pg) (m : Nat) : Prop where
  ok : p.ok
  right : rightP p = true
  v : p.vars.length ≤ m
  a : p.arrs.length ≤ m
  f : p.funs.length ≤ m
  fs : ∀ f ∈ p.funs, f.params.length ≤ m ∧ f.locs.length ≤ m ∧ szS f.body ≤ m
def smallQ (p : Pg) (m : Nat) : Bool := fewQ p m && rightP p
theorem Sml.of {p : Pg} {m : Nat} (hp : p.ok) (h : smallQ p m = true) : Sml p m := by
  simp only [smallQ, Bool.and_eq_true] at h
  obtain ⟨h1, h2, h3, h4⟩ := fewQ_sz h.1
  exact ⟨hp, h.2, h1, h2, h3, h4⟩
theorem small5_con (p : Pg) (hp : p.ok) (hl : Lim p) (most : Nat) (hm : most ≤ 1000) : PCon env 18 [p.av, .int .i64 (most : Nat)] (.bool (smallQ p most)) := by
  have h1 := few5_con p hp hl most hm
  have h2 : fewQ p most = true → PCon env 29 [p.av] (.bool (rightP p)) := fun h => Right_con p hp fun f hf => by have := (fewQ_sz h).2.2.2 f hf; omega
  unfold smallQ
  generalize fewQ p most = q at *
  generalize rightP p = r at *
  simp only [Pg.av, Pg.row] at h1 h2 ⊢
  cases q with
  | false =>
    refine con_of 12 [.tmp 4] Tryd.func18 rfl rfl rfl rfl ?_
    refine awp_seq_k fun K hK => ?_
    refine awp_region rfl ?_
    simp only [RR, seval]
    refine awpN_intro fun b2 hn2 => ?_
    simp only [RR, seval]
    refine hK _ _ ?_; clear hK K
    refine awp_seq_k fun K hK => ?_
    refine awp_region rfl ?_
    simp only [RR, seval]
    refine awpC_pure' (h1) ?_
    simp only [RR, seval]
    refine hK _ _ ?_; clear hK K
    refine awp_ret ?_; simp only [bodyQ, aresult, ares, RR, seval]
    refine Gives.pure ?_
    rfl
  | true =>
    have h3 := h2 rfl
    refine con_of 12 [.tmp 4] Tryd.func18 rfl rfl rfl rfl ?_
    refine awp_seq_k fun K hK => ?_
    refine awp_region rfl ?_
    simp only [RR, seval]
    refine awpN_intro fun b2 hn2 => ?_
    simp only [RR, seval]
    refine hK _ _ ?_; clear hK K
    refine awp_seq_k fun K hK => ?_
    refine awp_region rfl ?_
    simp only [RR, seval]
    refine awpC_pure' (h1) ?_
    simp only [RR, seval]
    refine awpC_pure' (h3) ?_
    simp only [RR, seval]
    refine hK _ _ ?_; clear hK K
    refine awp_ret ?_; simp only [bodyQ, aresult, ares, RR, seval]
    refine Gives.pure ?_
    rfl
end Go.Proofs.YtlpeikljipknoaaDoor

namespace Go.Al
open Go.ChangeShapes Go.WideShapes
section
variable {H : Type} {enc : TypeId × Value → H} {P : Program} {w : World} {sp : Nat → Bool} {held : Bool}
def Wt (P : Program) (t : TypeId) (d : DataW H) : Prop := ∀ n ∈ d.weights P t, n ≤ reachBytes
theorem wt_all (e : TypeId) : ∀ (l : List (DataW H)) (d : DataW H), d ∈ l → ∀ n ∈ d.weights P e, n ∈ DataW.weightsAll P e l
  | x :: l, d, h, n, hn => by
    rw [DataW.weightsAll, List.mem_append]
    rcases List.mem_cons.1 h with rfl | h
    · exact .inl hn
    · exact .inr (wt_all e l d h n hn)
theorem slice_wt {t e : TypeId} (ht : P.underlying t = some (.slice e)) {elems spare : List (DataW H)} (h : Wt P t (.slice elems spare)) (hb : 1 ≤ P.bytesOf e) : elems.length ≤ reachBytes ∧ ∀ d ∈ elems, Wt P e d := by
  have hw : DataW.weights P t (.slice elems spare : DataW H) = (elems.length + spare.length) * P.bytesOf e :: (DataW.weightsAll P e elems ++ DataW.weightsAll P e spare) := by
    simp only [DataW.weights, ht]
  unfold Wt at h
  rw [hw] at h
  refine ⟨?_, fun d hd n hn => h n (List.mem_cons_of_mem _ (List.mem_append_left _ (wt_all e elems d hd n hn)))⟩
  have h1 := h _ (List.mem_cons_self)
  have h2 : (elems.length + spare.length) * 1 ≤ (elems.length + spare.length) * P.bytesOf e := Nat.mul_le_mul_left _ hb
  omega
theorem agg_wt {t : TypeId} {fs : List (TypeId × Nat)} (ht : structOf P t = some fs) {parts : List (DataW H)} (h : Wt P t (.agg parts)) {i : Nat} {ty : TypeId} {off : Nat} {d : DataW H} (hi : fs[i]? = some (ty, off)) (hd : parts[i]? = some d) : Wt P ty d := by
  unfold structOf at ht
  split at ht
  · rename_i fa hu
    cases ht
    have hw : DataW.weights P t (.agg parts : DataW H) = DataW.weightsEach P (fa.toList.map (·.type)) parts := by simp only [DataW.weights, hu]
    unfold Wt at h
    rw [hw] at h
    rw [List.getElem?_map, Option.map_eq_some_iff] at hi
    obtain ⟨f, hf, e⟩ := hi
    simp only [Prod.mk.injEq] at e
    intro n hn
    exact h n (DataW.weights_mem_each (by rw [List.getElem?_map, hf, ← e.1]; rfl) hd n hn)
  · cases ht
theorem strct_openW {t : TypeId} {fs : List (TypeId × Nat)} {fuel : Nat} {cs : List Value} {x : DataW H × List MemPlace} (ht : structOf P t = some fs) (h : DataW.trod enc P w 0 sp held fuel t cs = some x) :
    ∃ (xs : List (DataW H × List MemPlace)) (n : Nat), x.1 = .agg (xs.map (·.1)) ∧ ∀ (i : Nat) ty off, fs[i]? = some (ty, off) → ∃ y, xs[i]? = some y ∧ DataW.trod enc P w 0 sp held n ty ((cs.drop off).take (P.cellsOf ty)) = some y := by
  unfold structOf at ht
  split at ht
  · rename_i fa hu
    cases ht
    obtain ⟨xs, n, h1, h2, h3, h4, h5⟩ := DataW.trod_struct hu h
    refine ⟨xs, n, by rw [h2], fun i ty off hi => ?_⟩
    rw [List.getElem?_map, Option.map_eq_some_iff] at hi
    obtain ⟨f, hf, e⟩ := hi
    simp only [Prod.mk.injEq] at e
    have h6 := h5 i f (by simpa using hf)
    rw [e.1, e.2] at h6
    have hlt : i < xs.length := by
      have := (List.getElem?_eq_some_iff.1 hf).1
      rw [h4]; simpa using this
    exact ⟨xs[i], List.getElem?_eq_getElem hlt, by rw [h6, List.getElem?_eq_getElem hlt]⟩
  · cases ht
theorem row_cells {S : Seal} {b : Nat} : ∀ (row : List AV) (o : Nat), RowRel S w b o row → ∃ vs : List Value, LRel S w row vs ∧ vs.length = row.length ∧ ∀ j, j < row.length → w.cell? ⟨b, o + j, none⟩ = vs[j]?
  | [], o, _ => ⟨[], by rw [LRel], rfl, fun j hj => by simp at hj⟩
  | x :: row, o, h => by
    rw [RowRel] at h
    obtain ⟨⟨u, h1, h2⟩, h3⟩ := h
    obtain ⟨vs, g1, g2, g3⟩ := row_cells row (o + 1) h3
    refine ⟨u :: vs, by rw [LRel]; exact ⟨u, vs, rfl, h2, g1⟩, by simp [g2], fun j hj => ?_⟩
    cases j with
    | zero => exact h1
    | succ j =>
      have := g3 j (by simpa using hj)
      rw [List.getElem?_cons_succ, ← this]
      congr 2; omega
theorem rows_at {S : Seal} {b sz : Nat} : ∀ (l : List (List AV)) (o : Nat), RowsRel S w b o sz l → ∀ (i : Nat) r, l[i]? = some r → r.length = sz ∧ RowRel S w b (o + i * sz) r
  | [], _, _, i, r, h => by simp at h
  | x :: l, o, h, i, r, hr => by
    rw [RowsRel] at h
    cases i with
    | zero => simp at hr; subst hr; exact ⟨h.1, by simpa using h.2.1⟩
    | succ i =>
      have := rows_at l (o + sz) h.2.2 i r (by simpa using hr)
      rw [Nat.succ_mul]
      rw [show o + (i * sz + sz) = o + sz + i * sz by omega]
      exact this
theorem isl_open {S : Seal} {t e : TypeId} {sz fuel : Nat} {v : Value} {l : List (List AV)} {x : DataW H × List MemPlace} (ht : P.underlying t = some (.slice e)) (hc : P.cellsOf e = sz) (hz : 0 < sz) (h : DataW.trod enc P w 0 sp held fuel t [v] = some x) (hv : VRel S w (.isl sz l) v) (hw : Wt P t x.1) (hb : 1 ≤ P.bytesOf e) :
    l.length ≤ reachBytes ∧ ∀ r ∈ l, ∃ (n : Nat) (vs : List Value) (y : DataW H × List MemPlace), LRel S w r vs ∧ DataW.trod enc P w 0 sp held n e vs = some y ∧ Wt P e y.1 := by
  rw [VRel] at hv
  obtain ⟨oa, cap', hv, _, _, hl⟩ := hv
  rcases DataW.trod_slice ht h with ⟨e1, e2⟩ | ⟨a, len, cap, elems, rest, n, _, e1, e2, _, _, _, hel, hi, _, _⟩
  · simp only [List.cons.injEq, and_true] at e1
    subst e1
    simp only [Value.slice.injEq] at hv
    have : l = [] := List.eq_nil_of_length_eq_zero hv.2.1.symm
    subst this
    exact ⟨by simp, fun r hr => by cases hr⟩
  · simp only [List.cons.injEq, and_true] at e1
    subst e1
    simp only [Value.slice.injEq] at hv
    obtain ⟨rfl, hlen, rfl⟩ := hv
    subst e2
    obtain ⟨w1, w2⟩ := slice_wt ht hw hb
    rw [List.length_map] at w1
    refine ⟨by omega, fun r hr => ?_⟩
    obtain ⟨i, hir⟩ := List.getElem?_of_mem hr
    have hil : i < l.length := (List.getElem?_eq_some_iff.1 hir).1
    rcases hl with rfl | ⟨b, off, ha, _, hrows⟩
    · simp at hir
    cases ha
    obtain ⟨g1, g2⟩ := rows_at l off hrows i r hir
    obtain ⟨vs, q1, q2, q3⟩ := row_cells r _ g2
    have h1 := hi i (by omega)
    rw [List.getElem?_eq_getElem (by omega), Option.bind_eq_some_iff] at h1
    obtain ⟨ds, hds, hy⟩ := h1
    rw [hc] at hds
    obtain ⟨_, h3, h4⟩ := World.cells?_some hds
    have : ds = vs := by
      refine List.ext_getElem? fun j => ?_
      by_cases hj : j < sz
      · rw [← h4 j hj, ← q3 j (by omega)]
        congr 1
        simp only [Addr.add]
        by_cases e1 : i * sz = 0 <;> by_cases e2 : j = 0 <;> simp [e1, e2]
      · rw [List.getElem?_eq_none (by omega), List.getElem?_eq_none (by omega)]
    subst this
    exact ⟨n, ds, elems[i], q1, hy, w2 _ (List.mem_map_of_mem (List.getElem_mem _))⟩
variable (T : Tys P)
theorem strs_lim {S : Seal} {fuel : Nat} {v : Value} {l : List (List AV)} {x : DataW H × List MemPlace} (h : DataW.trod enc P w 0 sp held fuel T.strs [v] = some x) (hv : VRel S w (.isl 1 l) v) (hw : Wt P T.strs x.1) (hb : 1 ≤ P.bytesOf T.str) : l.length ≤ reachBytes :=
  (isl_open T.uStrs (T.one1 (by simp)) (by decide) h hv hw hb).1
theorem prog_lim {S : Seal} {r : Reach} {b0 : Nat} {v : Value} {d : DataW H} {ps : List MemPlace} {p : Pg} (hu : ∃ fs, P.underlying T.pg = some (.struct fs)) (hval : Value.okWide P w r b0 T.pg v) (hd : DataW.Trod enc P w 0 sp held T.pg v d ps)
    (hv : VRel S w p.av v) (hw : Wt P T.pg d) (hb : 1 ≤ P.bytesOf T.str ∧ 1 ≤ P.bytesOf T.ar ∧ 1 ≤ P.bytesOf T.fu) : Lim p := by
  obtain ⟨fs, hu⟩ := hu
  obtain ⟨cs, rfl, _⟩ := okWide_struct hu hval
  obtain ⟨fuel, hf⟩ := hd
  rw [Pg.av, VRel] at hv
  obtain ⟨vs, hvs, h⟩ := hv
  have hcs : cs.toList = vs := by
    simp only [Value.agg.injEq] at hvs
    rw [hvs]
  have hf : DataW.trod enc P w 0 sp held fuel T.pg cs.toList = some (d, ps) := hf
  rw [hcs] at hf
  rw [Pg.row, LRel] at h
  obtain ⟨u0, us0, rfl, h0, h⟩ := h
  rw [LRel] at h
  obtain ⟨u1, us1, rfl, h1, h⟩ := h
  rw [LRel] at h
  obtain ⟨u2, us2, rfl, h2, h⟩ := h
  rw [LRel] at h
  subst h
  obtain ⟨xs, n, e1, hx⟩ := strct_openW T.uPg hf
  simp only at e1
  subst e1
  have part : ∀ {i : Nat} {ty : TypeId} {off : Nat}, [(T.strs, 0), (T.ars, 1), (T.fus, 2)][i]? = some (ty, off) → ∃ y, DataW.trod enc P w 0 sp held n ty (([u0, u1, u2].drop off).take (P.cellsOf ty)) = some y ∧ Wt P ty y.1 := by
    intro i ty off hi
    obtain ⟨y, hy1, hy2⟩ := hx i ty off hi
    exact ⟨y, hy2, agg_wt T.uPg hw hi (by rw [List.getElem?_map, hy1]; rfl)⟩
  obtain ⟨y0, p0, q0⟩ := part (i := 0) rfl
  obtain ⟨y1, p1, q1⟩ := part (i := 1) rfl
  obtain ⟨y2, p2, q2⟩ := part (i := 2) rfl
  rw [T.one1 (by simp)] at p0 p1 p2
  have hr : reachBytes ≤ 140737488355328 := by decide
  have l0 := strs_lim T p0 h0 q0 hb.1
  have l1 := (isl_open T.uArs T.cAr (by decide) p1 h1 q1 hb.2.1).1
  have l2 := isl_open T.uFus T.cFu (by decide) p2 h2 q2 hb.2.2
  rw [List.length_map] at l0 l1
  have l3 := l2.1
  rw [List.length_map] at l3
  refine ⟨by omega, by omega, by omega, fun f hfm => ?_⟩
  obtain ⟨m, vs, y, g1, g2, g3⟩ := l2.2 _ (List.mem_map_of_mem hfm)
  rw [Fu.row, LRel] at g1
  obtain ⟨a0, as0, rfl, _, g1⟩ := g1
  rw [LRel] at g1
  obtain ⟨a1, as1, rfl, k1, g1⟩ := g1
  rw [LRel] at g1
  obtain ⟨a2, as2, rfl, k2, g1⟩ := g1
  obtain ⟨xs2, n2, e2, hx2⟩ := strct_openW T.uFu g2
  obtain ⟨z1, zz1, zt1⟩ := hx2 1 _ _ rfl
  obtain ⟨z2, zz2, zt2⟩ := hx2 2 _ _ rfl
  have w1 : Wt P T.strs z1.1 := agg_wt T.uFu (by rw [← e2]; exact g3) (i := 1) rfl (by rw [List.getElem?_map, zz1]; rfl)
  have w2 : Wt P T.strs z2.1 := agg_wt T.uFu (by rw [← e2]; exact g3) (i := 2) rfl (by rw [List.getElem?_map, zz2]; rfl)
  rw [T.one1 (by simp)] at zt1 zt2
  have r1 := strs_lim T zt1 k1 w1 hb.1
  have r2 := strs_lim T zt2 k2 w2 hb.1
  rw [List.length_map] at r1 r2
  exact ⟨by omega, by omega⟩
end
end Go.Al
