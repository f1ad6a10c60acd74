/- Chapter 17: types, in plain Lean. Chapter 17, the judge's: types of expressions. Chapter 17, the judge's: what is known; what fits; Expr, Check, Sound. Chapter 17, the judge's: what fits; Expr, Check, Sound. Chapter 17, the judge's: Expr, Check, Sound. -/
import Derived.Test.YtefjogkgeelbdaaDoorSy2
import Derived.Test.YtefjogkgeelbdaaDoorSc1
set_option linter.unusedSimpArgs false
set_option linter.unusedVariables false
set_option maxRecDepth 10000
namespace Go.Al
/-- the function of a name: whether there is one, whether it has a value -/
def fnOf (p : Pg) (s : Str) : Option Fu := p.funs.find? fun f => decide (f.name = s)
def knF (p : Pg) (s : Str) : Bool := (fnOf p s).isSome
def wdF (p : Pg) (s : Str) : Bool := match fnOf p s with | some f => f.word | none => false
mutual
def tyE (W : Str → Bool) : Ex → Int
  | .mk k o _ s l => if k = 1 ∨ k = 2 ∨ k = 5 then 1 else if k = 3 then (if allT W l 1 = true then 1 else 0) else if k = 4 then (if (W s && allT W l 1) = true then 1 else 0)
      else if k = 6 then (if allT W l 1 = true then (if o = 14 ∨ o = 15 then 2 else 1) else 0) else if k = 7 ∨ k = 8 ∨ k = 9 then (if allT W l 2 = true then 2 else 0) else 0
def allT (W : Str → Bool) : List Ex → Int → Bool
  | [], _ => true
  | e :: l, t => decide (tyE W e = t) && allT W l t
end
theorem tyE_eq (W : Str → Bool) (e : Ex) : tyE W e = if e.kind = 1 ∨ e.kind = 2 ∨ e.kind = 5 then 1 else if e.kind = 3 then (if allT W e.kids 1 = true then 1 else 0) else if e.kind = 4 then (if (W e.name && allT W e.kids 1) = true then 1 else 0)
      else if e.kind = 6 then (if allT W e.kids 1 = true then (if e.op = 14 ∨ e.op = 15 then 2 else 1) else 0) else if e.kind = 7 ∨ e.kind = 8 ∨ e.kind = 9 then (if allT W e.kids 2 = true then 2 else 0) else 0 := by
  cases e; simp only [tyE, Ex.kind, Ex.op, Ex.name, Ex.kids]; rfl
theorem allT_cons (W : Str → Bool) (e : Ex) (l : List Ex) (t : Int) : allT W (e :: l) t = (decide (tyE W e = t) && allT W l t) := by simp only [allT]
theorem allT_nil (W : Str → Bool) (t : Int) : allT W [] t = true := by simp only [allT]
mutual
def knE (K : Str → Bool) : Ex → Bool
  | .mk k _ _ s l => (!decide (k = 4) || K s) && knL K l
def knL (K : Str → Bool) : List Ex → Bool
  | [] => true
  | e :: l => knE K e && knL K l
end
theorem knE_eq (K : Str → Bool) (e : Ex) : knE K e = ((!decide (e.kind = 4) || K e.name) && knL K e.kids) := by
  cases e; simp only [knE, Ex.kind, Ex.name, Ex.kids]; rfl
theorem knL_cons (K : Str → Bool) (e : Ex) (l : List Ex) : knL K (e :: l) = (knE K e && knL K l) := by simp only [knL]
theorem knL_nil (K : Str → Bool) : knL K [] = true := by simp only [knL]
mutual
def knM (K : Str → Bool) : Sm → Bool
  | .mk k s l t u => (!decide (k = 6) || K s) && knL K l && knT K t && knT K u
def knT (K : Str → Bool) : List Sm → Bool
  | [] => true
  | e :: l => knM K e && knT K l
end
theorem knM_eq (K : Str → Bool) (e : Sm) : knM K e = ((!decide (e.kind = 6) || K e.name) && knL K e.es && knT K e.thn && knT K e.els) := by
  cases e; simp only [knM, Sm.kind, Sm.name, Sm.es, Sm.thn, Sm.els]; rfl
theorem knT_cons (K : Str → Bool) (e : Sm) (l : List Sm) : knT K (e :: l) = (knM K e && knT K l) := by simp only [knT]
theorem knT_nil (K : Str → Bool) : knT K [] = true := by simp only [knT]
/-- the type that a statement's expressions must have -/
def wantS (k : Int) : Int := if k = 4 ∨ k = 5 then 2 else 1
mutual
def fitM (W : Str → Bool) (w : Bool) : Sm → Bool
  | .mk k s l t u => allT W l (wantS k) && !(decide (k = 6) && W s) && !(decide (k = 7) && decide (0 < l.length) && !w) && fitT W w t && fitT W w u
def fitT (W : Str → Bool) (w : Bool) : List Sm → Bool
  | [] => true
  | e :: l => fitM W w e && fitT W w l
end
theorem fitM_eq (W : Str → Bool) (w : Bool) (e : Sm) : fitM W w e = (allT W e.es (wantS e.kind) && !(decide (e.kind = 6) && W e.name) && !(decide (e.kind = 7) && decide (0 < e.es.length) && !w) && fitT W w e.thn && fitT W w e.els) := by
  cases e; simp only [fitM, Sm.kind, Sm.name, Sm.es, Sm.thn, Sm.els]; rfl
theorem fitT_cons (W : Str → Bool) (w : Bool) (e : Sm) (l : List Sm) : fitT W w (e :: l) = (fitM W w e && fitT W w l) := by simp only [fitT]
theorem fitT_nil (W : Str → Bool) (w : Bool) : fitT W w [] = true := by simp only [fitT]
/-- an expression's type, and the error -/
def exprT (p : Pg) (e : Ex) : Int × Int := if knE (knF p) e = true then (if tyE (wdF p) e = 0 then (0, 5) else (tyE (wdF p) e, 0)) else (0, 4)
def checkT (p : Pg) : Int := if (p.funs.all fun f => knT (knF p) f.body) = true then (if (p.funs.all fun f => fitT (wdF p) f.word f.body) = true then 0 else 5) else 4
theorem find_place : ∀ (l : List Fu) (s : Str), l.find? (fun f => decide (f.name = s)) = (placeN (l.map Fu.name) s).bind fun k => l[k]?
  | [], s => by simp [placeN]
  | f :: l, s => by
    have ih := find_place l s
    simp only [List.map_cons, placeN]
    by_cases h : f.name = s
    · simp [h]
    · simp only [List.find?_cons, decide_eq_false h, if_neg h, ih]
      cases placeN (l.map Fu.name) s <;> simp
theorem fnOf_place (p : Pg) (s : Str) : fnOf p s = (placeN (p.funs.map Fu.name) s).bind fun k => p.funs[k]? := find_place _ _
end Go.Al
namespace Go.Proofs.YtefjogkgeelbdaaDoor
open Go.Al
def soundT (p : Pg) : Int := if rightP p = true then (if checkI p = 0 then checkT p else checkI p) else 7
end Go.Proofs.YtefjogkgeelbdaaDoor

namespace Go.Proofs.YtefjogkgeelbdaaDoor
open Go.Al
theorem Function_con (p : Pg) (hp : fitL p.funs) (s : Str) : PCon env 50 [p.av, .str s] (.int .i64 (optI (placeN (p.funs.map Fu.name) s))) := by
  obtain ⟨vs, aa, fs⟩ := p
  simp only [Pg.av, Pg.row, fitL] at *
  refine con_of 22 [.tmp 4] Tryd.func50 rfl rfl rfl rfl ?_
  refine awp_seq_k fun K hK => ?_
  refine awp_region rfl ?_
  simp only [List.length_map, RR, seval]
  refine awpN_intro fun b2 hn2 => ?_
  simp only [List.length_map, RR, seval]
  refine hK _ _ ?_; clear hK K
  refine awp_seq ?_
  refine awp_seq_k fun K hK => ?_
  refine awp_region rfl ?_
  simp only [List.length_map, RR, seval]
  refine hK _ _ ?_; clear hK K
  refine awp_name fun F1 M1 hfr hH => ?_
  have g1 := hfr 1
  have g2 := hfr 2
  have g4 := hfr 4
  have g5 := hfr 5
  have gb2 := hH b2
  try simp only [List.length_map, RR, seval] at g1 g2 g4 g5 gb2
  have f1 := g1; clear g1
  have f2 := g2; clear g2
  have f4 := g4; clear g4
  have f5 := g5; clear g5
  have hb2 := gb2; clear gb2
  clear hfr hH
  refine awp_block ?_
  refine awp_each [1, 2] (fs.length) (fun k fr M => fr 5 = .int .i64 (k : Nat) ∧ M b2 = M1 b2 ∧ ((fs.map Fu.name).take k).contains s = false) ⟨f5, rfl, by simp⟩ ?_
  rintro k F2 M2 hk0 ⟨fx, gb2, hno⟩ agx K0 hK0
  have f1 := (agx 1 rfl).trans f1
  have f2 := (agx 2 rfl).trans f2
  have f5 := fx; clear fx
  have hb2 := gb2.trans hb2
  have ag0 := agree.refl [1, 2] F2
  have e0_b2 := gb2; clear gb2
  clear agx
  refine awp_seq ?_
  refine awp_seq_k fun K hK => ?_
  refine awp_region rfl ?_
  simp only [f1, f2, f5, hb2, List.length_map, RR, seval]
  refine hK _ _ ?_; clear hK K
  refine awp_if _ rfl (fun hc => ?_) (fun hc => ?_)
  · have hlt0 : k < fs.length := by have := of_decide_eq_true hc; omega
    clear hc
    have hg := getF (List.getElem?_eq_getElem hlt0)
    have htk : (fs.map Fu.name).take (k + 1) = (fs.map Fu.name).take k ++ [fs[k].name] := by rw [List.take_succ_eq_append_getElem (by simpa using hlt0)]; simp
    have hdr : (fs.map Fu.name).drop k = fs[k].name :: (fs.map Fu.name).drop (k + 1) := by rw [List.drop_eq_getElem_cons (by simpa using hlt0)]; simp
    generalize fs[k] = f at hg htk hdr
    refine awp_skip ?_; try simp only [RR]
    refine awp_seq ?_
    refine awp_block ?_
    refine awp_seq_k fun K hK => ?_
    refine awp_region rfl ?_
    simp only [f1, f2, f5, hb2, List.length_map, hg, RR, seval]
    refine hK _ _ ?_; clear hK K
    refine awp_if _ rfl (fun hc4 => ?_) (fun hc4 => ?_)
    · refine awp_seq_k fun K hK => ?_
      refine awp_region rfl ?_
      simp only [f1, f2, f5, hb2, List.length_map, hg, RR, seval]
      refine hK _ _ ?_; clear hK K
      refine awp_ret ?_; simp only [bodyQ, aresult, ares, f1, f2, f5, hb2, List.length_map, hg, RR, seval]
      refine Gives.pure ?_
      rw [placeN_from _ _ _ hno, hdr, placeN, if_pos (of_decide_eq_true hc4)]
      simp [optI]
    · refine awp_skip ?_; try simp only [RR]
      refine awp_region rfl ?_
      simp only [f1, f2, f5, hb2, List.length_map, hg, RR, seval]
      try rw [IntWalk.i64_in _ (by omega)]
      refine hK0 _ _ hlt0 ⟨by first | rfl | (simp only [upd_app, seval]; rfl), (by first | exact e0_b2 | (simp only [upd_app, seval]; first | done | exact e0_b2)), by rw [htk, List.contains_append, hno, Bool.false_or]; have := of_decide_eq_false hc4; simp; exact fun e => this e.symm⟩ (by repeat (first | exact ag0 | refine agree.upd rfl ?_))
  · have hkn0 : k = fs.length := by have := of_decide_eq_false hc; omega
    clear hc
    refine awp_exit ?_; simp only [RR, seval]
    refine awp_seq_k fun K hK => ?_
    refine awp_region rfl ?_
    simp only [f1, f2, f5, hb2, List.length_map, RR, seval]
    refine hK _ _ ?_; clear hK K
    refine awp_ret ?_; simp only [bodyQ, aresult, ares, f1, f2, f5, hb2, List.length_map, RR, seval]
    refine Gives.pure ?_
    rw [hkn0] at hno
    rw [placeN_from _ _ fs.length hno, List.drop_eq_nil_of_le (by simp)]
    rfl
/-- the type of each of these is known to be found -/
def TyOk (p : Pg) (l : List Ex) : Prop := ∀ e ∈ l, PCon env 34 [p.av, .agg e.row] (.int .i64 (tyE (wdF p) e))
theorem Words_con (p : Pg) (l : List Ex) (hl : fitL l) (h : TyOk p l) : PCon env 51 [p.av, .isl 5 (l.map Ex.row)] (.bool (allT (wdF p) l 1)) := by
  simp only [fitL] at hl
  unfold TyOk at h
  generalize wdF p = W at *
  simp only [Pg.av, Pg.row] at *
  refine con_of 19 [.tmp 4] Tryd.func51 rfl rfl rfl rfl ?_
  refine awp_seq_k fun K hK => ?_
  refine awp_region rfl ?_
  simp only [List.length_map, RR, seval]
  refine awpN_intro fun b2 hn2 => ?_
  simp only [List.length_map, RR, seval]
  refine hK _ _ ?_; clear hK K
  refine awp_seq ?_
  refine awp_seq_k fun K hK => ?_
  refine awp_region rfl ?_
  simp only [List.length_map, RR, seval]
  refine hK _ _ ?_; clear hK K
  refine awp_name fun F1 M1 hfr hH => ?_
  have g1 := hfr 1
  have g2 := hfr 2
  have g4 := hfr 4
  have g5 := hfr 5
  have gb2 := hH b2
  try simp only [List.length_map, RR, seval] at g1 g2 g4 g5 gb2
  have f1 := g1; clear g1
  have f2 := g2; clear g2
  have f4 := g4; clear g4
  have f5 := g5; clear g5
  have hb2 := gb2; clear gb2
  clear hfr hH
  refine awp_block ?_
  refine awp_each [1, 2] (l.length) (fun k fr M => fr 5 = .int .i64 (k : Nat) ∧ M b2 = M1 b2 ∧ allT W l 1 = allT W (l.drop k) 1) ⟨f5, rfl, by rw [List.drop_zero]⟩ ?_
  rintro k F2 M2 hk0 ⟨fx, gb2, hall⟩ agx K0 hK0
  have f1 := (agx 1 rfl).trans f1
  have f2 := (agx 2 rfl).trans f2
  have f5 := fx; clear fx
  have hb2 := gb2.trans hb2
  have ag0 := agree.refl [1, 2] F2
  have e0_b2 := gb2; clear gb2
  clear agx
  refine awp_seq ?_
  refine awp_seq_k fun K hK => ?_
  refine awp_region rfl ?_
  simp only [f1, f2, f5, hb2, List.length_map, RR, seval]
  refine hK _ _ ?_; clear hK K
  refine awp_if _ rfl (fun hc => ?_) (fun hc => ?_)
  · have hlt0 : k < l.length := by have := of_decide_eq_true hc; omega
    clear hc
    have hg := getE (List.getElem?_eq_getElem hlt0)
    have hm := h _ (List.getElem_mem hlt0)
    rw [List.drop_eq_getElem_cons hlt0, allT_cons] at hall
    generalize l[k] = e at hg hall hm
    rw [e.row_eq] at hm
    generalize tyE W e = t at hall hm
    refine awp_skip ?_; try simp only [RR]
    refine awp_seq ?_
    refine awp_block ?_
    refine awp_seq_k fun K hK => ?_
    refine awp_region_draw2 (fun x => x ≠ b2) [(0, 1), (1, 3), (2, 3), (3, 3), (4, 1), (5, 1), (6, 3)] [] draws (by kernel_rfl) rfl rfl ?_
    simp only [emitF, markOf, touch_mp, touch_imp, touch_nmp, ne_eq, not_true_eq_false, and_false, false_and, not_false_eq_true, f1, f2, f5, hb2, List.length_map, hg, RR, seval]
    refine awpC_pure' (hm) ?_
    simp only [emitF, markOf, touch_mp, touch_imp, touch_nmp, ne_eq, not_true_eq_false, and_false, false_and, not_false_eq_true, f1, f2, f5, hb2, List.length_map, hg, RR, seval]
    refine hK _ _ ?_; clear hK K
    refine awp_if _ rfl (fun hc4 => ?_) (fun hc4 => ?_)
    · refine awp_seq_k fun K hK => ?_
      refine awp_region rfl ?_
      simp only [f1, f2, f5, hb2, List.length_map, hg, RR, seval]
      refine hK _ _ ?_; clear hK K
      refine awp_ret ?_; simp only [bodyQ, aresult, ares, f1, f2, f5, hb2, List.length_map, hg, RR, seval]
      refine Gives.pure ?_
      rw [hall, show decide (t = 1) = false by simpa using hc4, Bool.false_and]
    · refine awp_skip ?_; try simp only [RR]
      refine awp_region rfl ?_
      simp only [f1, f2, f5, hb2, List.length_map, hg, RR, seval]
      try rw [IntWalk.i64_in _ (by omega)]
      refine hK0 _ _ hlt0 ⟨by first | rfl | (simp only [upd_app, seval]; rfl), (by first | exact e0_b2 | (simp only [upd_app, seval]; first | done | exact e0_b2)), by rw [hall, show decide (t = 1) = true by simpa using hc4, Bool.true_and]⟩ (by repeat (first | exact ag0 | refine agree.upd rfl ?_))
  · have hkn0 : k = l.length := by have := of_decide_eq_false hc; omega
    clear hc
    refine awp_exit ?_; simp only [RR, seval]
    refine awp_seq_k fun K hK => ?_
    refine awp_region rfl ?_
    simp only [f1, f2, f5, hb2, List.length_map, RR, seval]
    refine hK _ _ ?_; clear hK K
    refine awp_ret ?_; simp only [bodyQ, aresult, ares, f1, f2, f5, hb2, List.length_map, RR, seval]
    refine Gives.pure ?_
    rw [hall, hkn0, List.drop_length, allT_nil]
theorem Bools_con (p : Pg) (l : List Ex) (hl : fitL l) (h : TyOk p l) : PCon env 52 [p.av, .isl 5 (l.map Ex.row)] (.bool (allT (wdF p) l 2)) := by
  simp only [fitL] at hl
  unfold TyOk at h
  generalize wdF p = W at *
  simp only [Pg.av, Pg.row] at *
  refine con_of 19 [.tmp 4] Tryd.func52 rfl rfl rfl rfl ?_
  refine awp_seq_k fun K hK => ?_
  refine awp_region rfl ?_
  simp only [List.length_map, RR, seval]
  refine awpN_intro fun b2 hn2 => ?_
  simp only [List.length_map, RR, seval]
  refine hK _ _ ?_; clear hK K
  refine awp_seq ?_
  refine awp_seq_k fun K hK => ?_
  refine awp_region rfl ?_
  simp only [List.length_map, RR, seval]
  refine hK _ _ ?_; clear hK K
  refine awp_name fun F1 M1 hfr hH => ?_
  have g1 := hfr 1
  have g2 := hfr 2
  have g4 := hfr 4
  have g5 := hfr 5
  have gb2 := hH b2
  try simp only [List.length_map, RR, seval] at g1 g2 g4 g5 gb2
  have f1 := g1; clear g1
  have f2 := g2; clear g2
  have f4 := g4; clear g4
  have f5 := g5; clear g5
  have hb2 := gb2; clear gb2
  clear hfr hH
  refine awp_block ?_
  refine awp_each [1, 2] (l.length) (fun k fr M => fr 5 = .int .i64 (k : Nat) ∧ M b2 = M1 b2 ∧ allT W l 2 = allT W (l.drop k) 2) ⟨f5, rfl, by rw [List.drop_zero]⟩ ?_
  rintro k F2 M2 hk0 ⟨fx, gb2, hall⟩ agx K0 hK0
  have f1 := (agx 1 rfl).trans f1
  have f2 := (agx 2 rfl).trans f2
  have f5 := fx; clear fx
  have hb2 := gb2.trans hb2
  have ag0 := agree.refl [1, 2] F2
  have e0_b2 := gb2; clear gb2
  clear agx
  refine awp_seq ?_
  refine awp_seq_k fun K hK => ?_
  refine awp_region rfl ?_
  simp only [f1, f2, f5, hb2, List.length_map, RR, seval]
  refine hK _ _ ?_; clear hK K
  refine awp_if _ rfl (fun hc => ?_) (fun hc => ?_)
  · have hlt0 : k < l.length := by have := of_decide_eq_true hc; omega
    clear hc
    have hg := getE (List.getElem?_eq_getElem hlt0)
    have hm := h _ (List.getElem_mem hlt0)
    rw [List.drop_eq_getElem_cons hlt0, allT_cons] at hall
    generalize l[k] = e at hg hall hm
    rw [e.row_eq] at hm
    generalize tyE W e = t at hall hm
    refine awp_skip ?_; try simp only [RR]
    refine awp_seq ?_
    refine awp_block ?_
    refine awp_seq_k fun K hK => ?_
    refine awp_region_draw2 (fun x => x ≠ b2) [(0, 1), (1, 3), (2, 3), (3, 3), (4, 1), (5, 1), (6, 3)] [] draws (by kernel_rfl) rfl rfl ?_
    simp only [emitF, markOf, touch_mp, touch_imp, touch_nmp, ne_eq, not_true_eq_false, and_false, false_and, not_false_eq_true, f1, f2, f5, hb2, List.length_map, hg, RR, seval]
    refine awpC_pure' (hm) ?_
    simp only [emitF, markOf, touch_mp, touch_imp, touch_nmp, ne_eq, not_true_eq_false, and_false, false_and, not_false_eq_true, f1, f2, f5, hb2, List.length_map, hg, RR, seval]
    refine hK _ _ ?_; clear hK K
    refine awp_if _ rfl (fun hc4 => ?_) (fun hc4 => ?_)
    · refine awp_seq_k fun K hK => ?_
      refine awp_region rfl ?_
      simp only [f1, f2, f5, hb2, List.length_map, hg, RR, seval]
      refine hK _ _ ?_; clear hK K
      refine awp_ret ?_; simp only [bodyQ, aresult, ares, f1, f2, f5, hb2, List.length_map, hg, RR, seval]
      refine Gives.pure ?_
      rw [hall, show decide (t = 2) = false by simpa using hc4, Bool.false_and]
    · refine awp_skip ?_; try simp only [RR]
      refine awp_region rfl ?_
      simp only [f1, f2, f5, hb2, List.length_map, hg, RR, seval]
      try rw [IntWalk.i64_in _ (by omega)]
      refine hK0 _ _ hlt0 ⟨by first | rfl | (simp only [upd_app, seval]; rfl), (by first | exact e0_b2 | (simp only [upd_app, seval]; first | done | exact e0_b2)), by rw [hall, show decide (t = 2) = true by simpa using hc4, Bool.true_and]⟩ (by repeat (first | exact ag0 | refine agree.upd rfl ?_))
  · have hkn0 : k = l.length := by have := of_decide_eq_false hc; omega
    clear hc
    refine awp_exit ?_; simp only [RR, seval]
    refine awp_seq_k fun K hK => ?_
    refine awp_region rfl ?_
    simp only [f1, f2, f5, hb2, List.length_map, RR, seval]
    refine hK _ _ ?_; clear hK K
    refine awp_ret ?_; simp only [bodyQ, aresult, ares, f1, f2, f5, hb2, List.length_map, RR, seval]
    refine Gives.pure ?_
    rw [hall, hkn0, List.drop_length, allT_nil]
theorem Type_con (p : Pg) (hp : p.ok) (n : Nat) : ∀ e : Ex, e.sz ≤ n → e.ok → PCon env 34 [p.av, .agg e.row] (.int .i64 (tyE (wdF p) e)) := by
  induction n using Nat.strongRecOn with
  | _ n ih =>
    intro e hn he
    have hz := e.sz_eq
    have hk := he.kids
    have hall : TyOk p e.kids := fun x hx => ih x.sz (by have := szE_mem hx; omega) x (Nat.le_refl _) (hk.all x hx)
    have hW := Words_con p e.kids hk.fit hall
    have hB := Bools_con p e.kids hk.fit hall
    have hF := Function_con p hp.ffit e.name
    have hty := tyE_eq (wdF p) e
    have hwd : wdF p e.name = match (placeN (p.funs.map Fu.name) e.name).bind (fun k => p.funs[k]?) with | some f => f.word | none => false := by simp only [wdF, fnOf_place] <;> rfl
    have hpl := fun k h => placeN_lt (p.funs.map Fu.name) e.name k h
    have hff := hp.ffit
    generalize tyE (wdF p) e = res at *
    generalize wdF p e.name = WD at *
    generalize allT (wdF p) e.kids 1 = A1 at *
    generalize allT (wdF p) e.kids 2 = A2 at *
    obtain ⟨g, hg1, hg2⟩ : ∃ g : Fu, (decide ((0 : Int) ≤ optI (placeN (p.funs.map Fu.name) e.name)) = true → (p.funs.map Fu.row)[(optI (placeN (p.funs.map Fu.name) e.name)).toNat]? = some [.str g.name, .isl 1 (g.params.map strRow), .isl 1 (g.locs.map strRow), .bool g.word, .isl 5 (g.body.map Sm.row)]) ∧ WD = (decide ((0 : Int) ≤ optI (placeN (p.funs.map Fu.name) e.name)) && g.word) := by
      cases hc : placeN (p.funs.map Fu.name) e.name with
      | none =>
        rw [hc] at hwd
        exact ⟨⟨[], [], [], false, []⟩, fun h => by simp [optI] at h, by rw [hwd]; rfl⟩
      | some k =>
        rw [hc] at hwd
        have hlt := (hpl k hc).1
        rw [List.length_map] at hlt
        refine ⟨p.funs[k], fun _ => ?_, ?_⟩
        · simp only [optI, Int.toNat_natCast]
          exact getF (List.getElem?_eq_getElem hlt)
        · rw [hwd]
          simp [optI, List.getElem?_eq_getElem hlt]
    have z2 : decide ((0 : Int) ≤ optI (placeN (p.funs.map Fu.name) e.name)) = true → (0 : Int) ≤ optI (placeN (p.funs.map Fu.name) e.name) := of_decide_eq_true
    generalize optI (placeN (p.funs.map Fu.name) e.name) = pl at *
    clear hall ih hp hpl hwd
    subst hg2
    rw [e.row_eq]
    simp only [Pg.av, Pg.row, fitL] at *
    refine con_of 63 [.tmp 4] Tryd.func34 rfl rfl rfl rfl ?_
    refine awp_seq_k fun K hK => ?_
    refine awp_region rfl ?_
    simp only [List.length_map, RR, seval]
    refine awpN_intro fun b2 hn2 => ?_
    simp only [List.length_map, RR, seval]
    refine awpN_intro fun b3 hn3 => ?_
    have nb3_b2 : b3 ≠ b2 := fun e => by rw [e] at hn3; simp only [List.length_map, RR, seval, reduceCtorEq] at hn3
    have nb2_b3 : b2 ≠ b3 := fun e => nb3_b2 e.symm
    simp only [nb3_b2, nb2_b3, List.length_map, RR, seval]
    refine hK _ _ ?_; clear hK K
    refine awp_seq ?_
    refine awp_seq_k fun K hK => ?_
    refine awp_region rfl ?_
    simp only [nb3_b2, nb2_b3, List.length_map, RR, seval]
    refine hK _ _ ?_; clear hK K
    refine awp_block ?_
    refine awp_seq ?_
    refine awp_seq_k fun K hK => ?_
    refine awp_region rfl ?_
    simp only [nb3_b2, nb2_b3, List.length_map, RR, seval]
    refine hK _ _ ?_; clear hK K
    refine awp_name fun F1 M1 hfr hH => ?_
    have g2 := hfr 2
    have g3 := hfr 3
    have g4 := hfr 4
    have g7 := hfr 7
    have g8 := hfr 8
    have gb2 := hH b2
    have gb3 := hH b3
    try simp only [nb3_b2, nb2_b3, List.length_map, RR, seval] at g2 g3 g4 g7 g8 gb2 gb3
    have f2 := g2; clear g2
    have f3 := g3; clear g3
    have f4 := g4; clear g4
    have f7 := g7; clear g7
    have f8 := g8; clear g8
    have hb2 := gb2; clear gb2
    have hb3 := gb3; clear gb3
    clear hfr hH
    refine awp_cutP (fun fr M => agree [2, 3, 4, 7] F1 fr ∧ M b2 = M1 b2 ∧ M b3 = M1 b3 ∧ fr 8 = .bool (decide (e.kind = 1 ∨ e.kind = 2 ∨ e.kind = 5))) (fun KC2 hKC2 => ?_) ?_
    · have agC2 := agree.refl [2, 3, 4, 7] F1
      have eC2_b2 : M1 b2 = M1 b2 := rfl
      have eC2_b3 : M1 b3 = M1 b3 := rfl
      refine awp_if _ (by first | rfl | exact f8) (fun hc2 => ?_) (fun hc2 => ?_)
      · refine awp_skip ?_; try simp only [RR]
        refine hKC2 _ _ ⟨(by repeat (first | exact agC2 | refine agree.upd rfl ?_)), (by first | exact eC2_b2 | (simp only [nb3_b2, nb2_b3, upd_app, seval]; first | done | exact eC2_b2)), (by first | exact eC2_b3 | (simp only [nb3_b2, nb2_b3, upd_app, seval]; first | done | exact eC2_b3)), ?_⟩
        first | (rw [f8, hc2]; simp [of_decide_eq_true hc2]) | (simp only [upd_app, seval]; simp [hc2, hc3, of_decide_eq_true]; done) | (simp only [upd_app, seval]; simp_all)
      · refine awp_seq_k fun K hK => ?_
        refine awp_region rfl ?_
        simp only [f2, f3, f4, f7, f8, hb2, hb3, nb3_b2, nb2_b3, List.length_map, RR, seval]
        refine hK _ _ ?_; clear hK K
        refine awp_if _ (by first | rfl | exact f8) (fun hc3 => ?_) (fun hc3 => ?_)
        · refine awp_skip ?_; try simp only [RR]
          refine hKC2 _ _ ⟨(by repeat (first | exact agC2 | refine agree.upd rfl ?_)), (by first | exact eC2_b2 | (simp only [nb3_b2, nb2_b3, upd_app, seval]; first | done | exact eC2_b2)), (by first | exact eC2_b3 | (simp only [nb3_b2, nb2_b3, upd_app, seval]; first | done | exact eC2_b3)), ?_⟩
          first | (rw [f8, hc2]; simp [of_decide_eq_true hc2]) | (simp only [upd_app, seval]; simp [hc2, hc3, of_decide_eq_true]; done) | (simp only [upd_app, seval]; simp_all)
        · refine awp_region rfl ?_
          simp only [f2, f3, f4, f7, f8, hb2, hb3, nb3_b2, nb2_b3, List.length_map, RR, seval]
          refine hKC2 _ _ ⟨(by repeat (first | exact agC2 | refine agree.upd rfl ?_)), (by first | exact eC2_b2 | (simp only [nb3_b2, nb2_b3, upd_app, seval]; first | done | exact eC2_b2)), (by first | exact eC2_b3 | (simp only [nb3_b2, nb2_b3, upd_app, seval]; first | done | exact eC2_b3)), ?_⟩
          first | (rw [f8, hc2]; simp [of_decide_eq_true hc2]) | (simp only [upd_app, seval]; simp [hc2, hc3, of_decide_eq_true]; done) | (simp only [upd_app, seval]; simp_all)
    rintro F2 M2 ⟨agx, gb2, gb3, f8⟩
    have f2 := (agx 2 rfl).trans f2
    have f3 := (agx 3 rfl).trans f3
    have f4 := (agx 4 rfl).trans f4
    have f7 := (agx 7 rfl).trans f7
    have hb2 := gb2.trans hb2
    have hb3 := gb3.trans hb3
    clear agx
    clear gb2
    clear gb3
    simp only [RR, seval]
    refine awp_if _ (by first | rfl | exact f8) (fun hc4 => ?_) (fun hc4 => ?_)
    · refine awp_seq_k fun K hK => ?_
      refine awp_region rfl ?_
      simp only [f2, f3, f4, f7, f8, hb2, hb3, nb3_b2, nb2_b3, List.length_map, RR, seval]
      refine hK _ _ ?_; clear hK K
      refine awp_ret ?_; simp only [bodyQ, aresult, ares, f2, f3, f4, f7, f8, hb2, hb3, nb3_b2, nb2_b3, List.length_map, RR, seval]
      refine Gives.pure ?_
      rw [hty]
      clear hW hB hF hty hg1
      simp_all
      all_goals (intros; omega)
    · refine awp_seq_k fun K hK => ?_
      refine awp_region rfl ?_
      simp only [f2, f3, f4, f7, f8, hb2, hb3, nb3_b2, nb2_b3, List.length_map, RR, seval]
      refine hK _ _ ?_; clear hK K
      refine awp_if _ rfl (fun hc6 => ?_) (fun hc6 => ?_)
      · refine awp_seq_k fun K hK => ?_
        refine awp_region rfl ?_
        simp only [f2, f3, f4, f7, f8, hb2, hb3, nb3_b2, nb2_b3, List.length_map, RR, seval]
        refine awpC_pure' (hW) ?_
        simp only [f2, f3, f4, f7, f8, hb2, hb3, nb3_b2, nb2_b3, List.length_map, RR, seval]
        refine hK _ _ ?_; clear hK K
        refine awp_if _ rfl (fun hc7 => ?_) (fun hc7 => ?_)
        · refine awp_seq_k fun K hK => ?_
          refine awp_region rfl ?_
          simp only [f2, f3, f4, f7, f8, hb2, hb3, nb3_b2, nb2_b3, List.length_map, RR, seval]
          refine hK _ _ ?_; clear hK K
          refine awp_ret ?_; simp only [bodyQ, aresult, ares, f2, f3, f4, f7, f8, hb2, hb3, nb3_b2, nb2_b3, List.length_map, RR, seval]
          refine Gives.pure ?_
          rw [hty]
          clear hW hB hF hty hg1
          simp_all
          all_goals (intros; omega)
        · refine awp_skip ?_; try simp only [RR]
          refine awp_seq_k fun K hK => ?_
          refine awp_region rfl ?_
          simp only [f2, f3, f4, f7, f8, hb2, hb3, nb3_b2, nb2_b3, List.length_map, RR, seval]
          refine hK _ _ ?_; clear hK K
          refine awp_ret ?_; simp only [bodyQ, aresult, ares, f2, f3, f4, f7, f8, hb2, hb3, nb3_b2, nb2_b3, List.length_map, RR, seval]
          refine Gives.pure ?_
          rw [hty]
          clear hW hB hF hty hg1
          simp_all
          all_goals (intros; omega)
      · refine awp_seq_k fun K hK => ?_
        refine awp_region rfl ?_
        simp only [f2, f3, f4, f7, f8, hb2, hb3, nb3_b2, nb2_b3, List.length_map, RR, seval]
        refine hK _ _ ?_; clear hK K
        refine awp_if _ rfl (fun hc9 => ?_) (fun hc9 => ?_)
        · refine awp_seq_k fun K hK => ?_
          refine awp_region rfl ?_
          simp only [f2, f3, f4, f7, f8, hb2, hb3, nb3_b2, nb2_b3, List.length_map, hg1, z2, RR, seval]
          refine awpC_pure' (hF) ?_
          simp only [f2, f3, f4, f7, f8, hb2, hb3, nb3_b2, nb2_b3, List.length_map, hg1, z2, RR, seval]
          refine hK _ _ ?_; clear hK K
          refine awp_seq_k fun K hK => ?_
          refine awp_region rfl ?_
          simp only [f2, f3, f4, f7, f8, hb2, hb3, nb3_b2, nb2_b3, List.length_map, hg1, z2, RR, seval]
          all_goals try ((first | refine awpG_splitN (fun h => ?_) (fun h => ?_) | refine awpG_split (fun h => ?_) (fun h => ?_)) <;> simp only [h, f2, f3, f4, f7, f8, hb2, hb3, nb3_b2, nb2_b3, List.length_map, hg1, z2, RR, seval])
          all_goals try ((first | refine awpG_splitN (fun h => ?_) (fun h => ?_) | refine awpG_split (fun h => ?_) (fun h => ?_)) <;> simp only [h, f2, f3, f4, f7, f8, hb2, hb3, nb3_b2, nb2_b3, List.length_map, hg1, z2, RR, seval])
          all_goals try (refine awpC_pure' (hW) ?_; simp only [f2, f3, f4, f7, f8, hb2, hb3, nb3_b2, nb2_b3, List.length_map, hg1, z2, RR, seval])
          all_goals
            refine hK _ _ ?_; clear hK K
            refine awp_if _ rfl (fun hc11 => ?_) (fun hc11 => ?_)
            · try (cases hc11; done)
              all_goals
                refine awp_seq_k fun K hK => ?_
                refine awp_region rfl ?_
                simp only [f2, f3, f4, f7, f8, hb2, hb3, nb3_b2, nb2_b3, List.length_map, hg1, z2, RR, seval]
                refine hK _ _ ?_; clear hK K
                refine awp_ret ?_; simp only [bodyQ, aresult, ares, f2, f3, f4, f7, f8, hb2, hb3, nb3_b2, nb2_b3, List.length_map, hg1, z2, RR, seval]
                refine Gives.pure ?_
                rw [hty]
                clear hW hB hF hty hg1
                simp_all
                all_goals (intros; omega)
            · try (cases hc11; done)
              all_goals
                refine awp_skip ?_; try simp only [RR]
                refine awp_seq_k fun K hK => ?_
                refine awp_region rfl ?_
                simp only [f2, f3, f4, f7, f8, hb2, hb3, nb3_b2, nb2_b3, List.length_map, hg1, z2, RR, seval]
                refine hK _ _ ?_; clear hK K
                refine awp_ret ?_; simp only [bodyQ, aresult, ares, f2, f3, f4, f7, f8, hb2, hb3, nb3_b2, nb2_b3, List.length_map, hg1, z2, RR, seval]
                refine Gives.pure ?_
                rw [hty]
                clear hW hB hF hty hg1
                simp_all
                all_goals (intros; omega)
        · refine awp_seq_k fun K hK => ?_
          refine awp_region rfl ?_
          simp only [f2, f3, f4, f7, f8, hb2, hb3, nb3_b2, nb2_b3, List.length_map, RR, seval]
          refine hK _ _ ?_; clear hK K
          refine awp_if _ rfl (fun hc13 => ?_) (fun hc13 => ?_)
          · refine awp_seq ?_
            refine awp_seq_k fun K hK => ?_
            refine awp_region rfl ?_
            simp only [f2, f3, f4, f7, f8, hb2, hb3, nb3_b2, nb2_b3, List.length_map, RR, seval]
            refine awpC_pure' (hW) ?_
            simp only [f2, f3, f4, f7, f8, hb2, hb3, nb3_b2, nb2_b3, List.length_map, RR, seval]
            refine hK _ _ ?_; clear hK K
            refine awp_if _ rfl (fun hc14 => ?_) (fun hc14 => ?_)
            · refine awp_seq_k fun K hK => ?_
              refine awp_region rfl ?_
              simp only [f2, f3, f4, f7, f8, hb2, hb3, nb3_b2, nb2_b3, List.length_map, RR, seval]
              refine hK _ _ ?_; clear hK K
              refine awp_ret ?_; simp only [bodyQ, aresult, ares, f2, f3, f4, f7, f8, hb2, hb3, nb3_b2, nb2_b3, List.length_map, RR, seval]
              refine Gives.pure ?_
              rw [hty]
              clear hW hB hF hty hg1
              simp_all
              all_goals (intros; omega)
            · refine awp_skip ?_; try simp only [RR]
              refine awp_seq ?_
              refine awp_seq_k fun K hK => ?_
              refine awp_region rfl ?_
              simp only [f2, f3, f4, f7, f8, hb2, hb3, nb3_b2, nb2_b3, List.length_map, RR, seval]
              repeat' ((first | refine awpG_splitN (fun h => ?_) (fun h => ?_) | refine awpG_split (fun h => ?_) (fun h => ?_)) <;> simp only [h, f2, f3, f4, f7, f8, hb2, hb3, nb3_b2, nb2_b3, List.length_map, RR, seval])
              all_goals
                refine hK _ _ ?_; clear hK K
                refine awp_if _ rfl (fun hc16 => ?_) (fun hc16 => ?_)
                · try (cases hc16; done)
                  all_goals
                    refine awp_seq_k fun K hK => ?_
                    refine awp_region rfl ?_
                    simp only [f2, f3, f4, f7, f8, hb2, hb3, nb3_b2, nb2_b3, List.length_map, RR, seval]
                    refine hK _ _ ?_; clear hK K
                    refine awp_ret ?_; simp only [bodyQ, aresult, ares, f2, f3, f4, f7, f8, hb2, hb3, nb3_b2, nb2_b3, List.length_map, RR, seval]
                    refine Gives.pure ?_
                    rw [hty]
                    clear hW hB hF hty hg1
                    simp_all
                    all_goals (intros; omega)
                · try (cases hc16; done)
                  all_goals
                    refine awp_skip ?_; try simp only [RR]
                    refine awp_seq_k fun K hK => ?_
                    refine awp_region rfl ?_
                    simp only [f2, f3, f4, f7, f8, hb2, hb3, nb3_b2, nb2_b3, List.length_map, RR, seval]
                    refine hK _ _ ?_; clear hK K
                    refine awp_ret ?_; simp only [bodyQ, aresult, ares, f2, f3, f4, f7, f8, hb2, hb3, nb3_b2, nb2_b3, List.length_map, RR, seval]
                    refine Gives.pure ?_
                    rw [hty]
                    clear hW hB hF hty hg1
                    simp_all
                    all_goals (intros; omega)
          · refine awp_seq ?_
            refine awp_seq_k fun K hK => ?_
            refine awp_region rfl ?_
            simp only [f2, f3, f4, f7, f8, hb2, hb3, nb3_b2, nb2_b3, List.length_map, RR, seval]
            refine hK _ _ ?_; clear hK K
            refine awp_name fun F3 M3 hfr hH => ?_
            have g2 := hfr 2
            have g3 := hfr 3
            have g4 := hfr 4
            have g7 := hfr 7
            have g55 := hfr 55
            have gb2 := hH b2
            have gb3 := hH b3
            try simp only [f2, f3, f4, f7, f8, hb2, hb3, nb3_b2, nb2_b3, List.length_map, RR, seval] at g2 g3 g4 g7 g55 gb2 gb3
            have f2 := g2; clear g2
            have f3 := g3; clear g3
            have f4 := g4; clear g4
            have f7 := g7; clear g7
            have f55 := g55; clear g55
            have hb2 := gb2; clear gb2
            have hb3 := gb3; clear gb3
            clear hfr hH
            refine awp_cutP (fun fr M => agree [2, 3, 4] F3 fr ∧ M b2 = M3 b2 ∧ M b3 = M3 b3 ∧ fr 55 = .bool (decide (e.kind = 7 ∨ e.kind = 8 ∨ e.kind = 9))) (fun KC19 hKC19 => ?_) ?_
            · have agC19 := agree.refl [2, 3, 4] F3
              have eC19_b2 : M3 b2 = M3 b2 := rfl
              have eC19_b3 : M3 b3 = M3 b3 := rfl
              refine awp_if _ (by first | rfl | exact f55) (fun hc19 => ?_) (fun hc19 => ?_)
              · refine awp_skip ?_; try simp only [RR]
                refine hKC19 _ _ ⟨(by repeat (first | exact agC19 | refine agree.upd rfl ?_)), (by first | exact eC19_b2 | (simp only [nb3_b2, nb2_b3, upd_app, seval]; first | done | exact eC19_b2)), (by first | exact eC19_b3 | (simp only [nb3_b2, nb2_b3, upd_app, seval]; first | done | exact eC19_b3)), ?_⟩
                first | (rw [f55, hc19]; simp [of_decide_eq_true hc19]) | (simp only [upd_app, seval]; simp_all)
              · refine awp_seq_k fun K hK => ?_
                refine awp_region rfl ?_
                simp only [f2, f3, f4, f7, f55, hb2, hb3, nb3_b2, nb2_b3, List.length_map, RR, seval]
                refine hK _ _ ?_; clear hK K
                refine awp_if _ (by first | rfl | exact f55) (fun hc20 => ?_) (fun hc20 => ?_)
                · refine awp_skip ?_; try simp only [RR]
                  refine hKC19 _ _ ⟨(by repeat (first | exact agC19 | refine agree.upd rfl ?_)), (by first | exact eC19_b2 | (simp only [nb3_b2, nb2_b3, upd_app, seval]; first | done | exact eC19_b2)), (by first | exact eC19_b3 | (simp only [nb3_b2, nb2_b3, upd_app, seval]; first | done | exact eC19_b3)), ?_⟩
                  first | (rw [f55, hc19]; simp [of_decide_eq_true hc19]) | (simp only [upd_app, seval]; simp_all)
                · refine awp_region rfl ?_
                  simp only [f2, f3, f4, f7, f55, hb2, hb3, nb3_b2, nb2_b3, List.length_map, RR, seval]
                  refine hKC19 _ _ ⟨(by repeat (first | exact agC19 | refine agree.upd rfl ?_)), (by first | exact eC19_b2 | (simp only [nb3_b2, nb2_b3, upd_app, seval]; first | done | exact eC19_b2)), (by first | exact eC19_b3 | (simp only [nb3_b2, nb2_b3, upd_app, seval]; first | done | exact eC19_b3)), ?_⟩
                  first | (rw [f55, hc19]; simp [of_decide_eq_true hc19]) | (simp only [upd_app, seval]; simp_all)
            rintro F4 M4 ⟨agx, gb2, gb3, f55⟩
            have f2 := (agx 2 rfl).trans f2
            have f3 := (agx 3 rfl).trans f3
            have f4 := (agx 4 rfl).trans f4
            have hb2 := gb2.trans hb2
            have hb3 := gb3.trans hb3
            clear agx
            clear gb2
            clear gb3
            simp only [RR, seval]
            refine awp_if _ (by first | rfl | exact f55) (fun hc21 => ?_) (fun hc21 => ?_)
            · refine awp_seq_k fun K hK => ?_
              refine awp_region rfl ?_
              simp only [f2, f3, f4, f55, hb2, hb3, nb3_b2, nb2_b3, List.length_map, RR, seval]
              refine awpC_pure' (hB) ?_
              simp only [f2, f3, f4, f55, hb2, hb3, nb3_b2, nb2_b3, List.length_map, RR, seval]
              refine hK _ _ ?_; clear hK K
              refine awp_if _ rfl (fun hc22 => ?_) (fun hc22 => ?_)
              · refine awp_seq_k fun K hK => ?_
                refine awp_region rfl ?_
                simp only [f2, f3, f4, f55, hb2, hb3, nb3_b2, nb2_b3, List.length_map, RR, seval]
                refine hK _ _ ?_; clear hK K
                refine awp_ret ?_; simp only [bodyQ, aresult, ares, f2, f3, f4, f55, hb2, hb3, nb3_b2, nb2_b3, List.length_map, RR, seval]
                refine Gives.pure ?_
                rw [hty]
                clear hW hB hF hty hg1
                simp_all
                all_goals (intros; omega)
              · refine awp_skip ?_; try simp only [RR]
                refine awp_seq_k fun K hK => ?_
                refine awp_region rfl ?_
                simp only [f2, f3, f4, f55, hb2, hb3, nb3_b2, nb2_b3, List.length_map, RR, seval]
                refine hK _ _ ?_; clear hK K
                refine awp_ret ?_; simp only [bodyQ, aresult, ares, f2, f3, f4, f55, hb2, hb3, nb3_b2, nb2_b3, List.length_map, RR, seval]
                refine Gives.pure ?_
                rw [hty]
                clear hW hB hF hty hg1
                simp_all
                all_goals (intros; omega)
            · refine awp_skip ?_; try simp only [RR]
              refine awp_seq_k fun K hK => ?_
              refine awp_region rfl ?_
              simp only [f2, f3, f4, f55, hb2, hb3, nb3_b2, nb2_b3, List.length_map, RR, seval]
              refine hK _ _ ?_; clear hK K
              refine awp_ret ?_; simp only [bodyQ, aresult, ares, f2, f3, f4, f55, hb2, hb3, nb3_b2, nb2_b3, List.length_map, RR, seval]
              refine Gives.pure ?_
              rw [hty]
              clear hW hB hF hty hg1
              simp_all
              all_goals (intros; omega)
end Go.Proofs.YtefjogkgeelbdaaDoor

namespace Go.Proofs.YtefjogkgeelbdaaDoor
open Go.Al
theorem knF_place (p : Pg) (s : Str) : decide (optI (placeN (p.funs.map Fu.name) s) < 0) = !knF p s := by
  have h : knF p s = ((placeN (p.funs.map Fu.name) s).bind fun k => p.funs[k]?).isSome := by simp only [knF, fnOf_place]
  cases hc : placeN (p.funs.map Fu.name) s with
  | none => rw [h, hc]; rfl
  | some k =>
    have hlt := (placeN_lt _ _ _ hc).1
    rw [List.length_map] at hlt
    rw [h, hc]
    simp [optI, List.getElem?_eq_getElem hlt]
    exact decide_eq_false (by omega)
theorem Known_con (p : Pg) (hp : p.ok) (n : Nat) : ∀ l : List Ex, szE l ≤ n → okE l → PCon env 33 [p.av, .isl 5 (l.map Ex.row)] (.bool (knL (knF p) l)) := by
  induction n using Nat.strongRecOn with
  | _ n ih =>
    intro l hn hok
    have hfit := hok.fit
    have hFn := fun s => Function_con p hp.ffit s
    have hkp := fun s => knF_place p s
    generalize knF p = K at *
    clear hp
    simp only [Pg.av, Pg.row, fitL] at *
    refine con_of 38 [.tmp 4] Tryd.func33 rfl rfl rfl rfl ?_
    refine awp_seq_k fun K hK => ?_
    refine awp_region rfl ?_
    simp only [List.length_map, RR, seval]
    refine awpN_intro fun b2 hn2 => ?_
    simp only [List.length_map, RR, seval]
    refine hK _ _ ?_; clear hK K
    refine awp_seq ?_
    refine awp_seq_k fun K hK => ?_
    refine awp_region rfl ?_
    simp only [List.length_map, RR, seval]
    refine hK _ _ ?_; clear hK K
    refine awp_name fun F1 M1 hfr hH => ?_
    have g1 := hfr 1
    have g2 := hfr 2
    have g4 := hfr 4
    have g5 := hfr 5
    have gb2 := hH b2
    try simp only [List.length_map, RR, seval] at g1 g2 g4 g5 gb2
    have f1 := g1; clear g1
    have f2 := g2; clear g2
    have f4 := g4; clear g4
    have f5 := g5; clear g5
    have hb2 := gb2; clear gb2
    clear hfr hH
    refine awp_block ?_
    refine awp_each [1, 2] (l.length) (fun k fr M => fr 5 = .int .i64 (k : Nat) ∧ M b2 = M1 b2 ∧ knL K l = knL K (l.drop k)) ⟨f5, rfl, by rw [List.drop_zero]⟩ ?_
    rintro k F2 M2 hk0 ⟨fx, gb2, hall⟩ agx K0 hK0
    have f1 := (agx 1 rfl).trans f1
    have f2 := (agx 2 rfl).trans f2
    have f5 := fx; clear fx
    have hb2 := gb2.trans hb2
    have ag0 := agree.refl [1, 2] F2
    have e0_b2 := gb2; clear gb2
    clear agx
    refine awp_seq ?_
    refine awp_seq_k fun K hK => ?_
    refine awp_region rfl ?_
    simp only [f1, f2, f5, hb2, List.length_map, RR, seval]
    refine hK _ _ ?_; clear hK K
    refine awp_if _ rfl (fun hc => ?_) (fun hc => ?_)
    · have hlt0 : k < l.length := by have := of_decide_eq_true hc; omega
      clear hc
      have hg := getE (List.getElem?_eq_getElem hlt0)
      have hm := List.getElem_mem hlt0
      have hke := (hok.all _ hm).kids
      have hsz := szE_mem hm
      rw [List.drop_eq_getElem_cons hlt0, knL_cons, knE_eq] at hall
      generalize l[k] = e at hg hall hke hsz
      have hz := e.sz_eq
      have hi := ih (szE e.kids) (by omega) e.kids (Nat.le_refl _) hke
      have hf := hFn e.name
      have z1 := hkp e.name
      generalize K e.name = K1 at hall z1
      generalize knL K e.kids = K2 at hall hi
      generalize optI (placeN (p.funs.map Fu.name) e.name) = pl at hf z1
      obtain ⟨K3, z3⟩ : ∃ b, decide (e.kind = 4) = b := ⟨_, rfl⟩
      rw [z3] at hall
      clear ih hFn hkp hke hok
      cases K1 <;> cases K2 <;> cases K3
      all_goals
        refine awp_skip ?_; try simp only [RR]
        refine awp_seq ?_
        refine awp_block ?_
        refine awp_seq_k fun K hK => ?_
        refine awp_region_draw2 (fun x => x ≠ b2) [(0, 3), (1, 3), (2, 3), (3, 3), (4, 1), (5, 3), (6, 3), (7, 1), (8, 3), (9, 3), (10, 3), (11, 3), (12, 1), (13, 1), (14, 3), (15, 3), (16, 3), (17, 1), (18, 3), (19, 3), (20, 3), (21, 3), (22, 1), (23, 1), (24, 3), (25, 3)] [] draws (by kernel_rfl) rfl rfl ?_
        simp only [emitF, markOf, touch_mp, touch_imp, touch_nmp, ne_eq, not_true_eq_false, and_false, false_and, not_false_eq_true, f1, f2, f5, hb2, List.length_map, hg, z1, z3, RR, seval]
        all_goals try ((first | refine awpG_splitN (fun h => ?_) (fun h => ?_) | refine awpG_split (fun h => ?_) (fun h => ?_)) <;> simp only [h, emitF, markOf, touch_mp, touch_imp, touch_nmp, ne_eq, not_true_eq_false, and_false, false_and, not_false_eq_true, f1, f2, f5, hb2, List.length_map, hg, z1, z3, RR, seval])
        all_goals try (refine awpC_pure' (hf) ?_; simp only [emitF, markOf, touch_mp, touch_imp, touch_nmp, ne_eq, not_true_eq_false, and_false, false_and, not_false_eq_true, f1, f2, f5, hb2, List.length_map, hg, z1, z3, RR, seval])
        all_goals try ((first | refine awpG_splitN (fun h => ?_) (fun h => ?_) | refine awpG_split (fun h => ?_) (fun h => ?_)) <;> simp only [h, emitF, markOf, touch_mp, touch_imp, touch_nmp, ne_eq, not_true_eq_false, and_false, false_and, not_false_eq_true, f1, f2, f5, hb2, List.length_map, hg, z1, z3, RR, seval])
        all_goals try (refine awpC_pure' (hi) ?_; simp only [emitF, markOf, touch_mp, touch_imp, touch_nmp, ne_eq, not_true_eq_false, and_false, false_and, not_false_eq_true, f1, f2, f5, hb2, List.length_map, hg, z1, z3, RR, seval])
        all_goals
          refine hK _ _ ?_; clear hK K
          refine awp_if _ rfl (fun hc4 => ?_) (fun hc4 => ?_)
          · try (cases hc4; done)
            all_goals
              refine awp_seq_k fun K hK => ?_
              refine awp_region rfl ?_
              simp only [f1, f2, f5, hb2, List.length_map, hg, z1, z3, RR, seval]
              refine hK _ _ ?_; clear hK K
              refine awp_ret ?_; simp only [bodyQ, aresult, ares, f1, f2, f5, hb2, List.length_map, hg, z1, z3, RR, seval]
              refine Gives.pure ?_
              rw [hall]
              rfl
          · try (cases hc4; done)
            all_goals
              refine awp_skip ?_; try simp only [RR]
              refine awp_region rfl ?_
              simp only [f1, f2, f5, hb2, List.length_map, hg, z1, z3, RR, seval]
              try rw [IntWalk.i64_in _ (by omega)]
              refine hK0 _ _ hlt0 ⟨by first | rfl | (simp only [upd_app, seval]; rfl), (by first | exact e0_b2 | (simp only [upd_app, seval]; first | done | exact e0_b2)), by rw [hall]; rfl⟩ (by repeat (first | exact ag0 | refine agree.upd rfl ?_))
    · have hkn0 : k = l.length := by have := of_decide_eq_false hc; omega
      clear hc
      refine awp_exit ?_; simp only [RR, seval]
      refine awp_seq_k fun K hK => ?_
      refine awp_region rfl ?_
      simp only [f1, f2, f5, hb2, List.length_map, RR, seval]
      refine hK _ _ ?_; clear hK K
      refine awp_ret ?_; simp only [bodyQ, aresult, ares, f1, f2, f5, hb2, List.length_map, RR, seval]
      refine Gives.pure ?_
      rw [hall, hkn0, List.drop_length, knL_nil]
theorem KnownStmts_con (p : Pg) (hp : p.ok) (n : Nat) : ∀ l : List Sm, szS l ≤ n → okS l → PCon env 37 [p.av, .isl 5 (l.map Sm.row)] (.bool (knT (knF p) l)) := by
  induction n using Nat.strongRecOn with
  | _ n ih =>
    intro l hn hok
    have hfit := hok.fit
    have hFn := fun s => Function_con p hp.ffit s
    have hKn := fun (x : List Ex) (h : okE x) => Known_con p hp _ x (Nat.le_refl _) h
    have hkp := fun s => knF_place p s
    generalize knF p = K at *
    clear hp
    simp only [Pg.av, Pg.row, fitL] at *
    refine con_of 58 [.tmp 4] Tryd.func37 rfl rfl rfl rfl ?_
    refine awp_seq_k fun K hK => ?_
    refine awp_region rfl ?_
    simp only [List.length_map, RR, seval]
    refine awpN_intro fun b2 hn2 => ?_
    simp only [List.length_map, RR, seval]
    refine hK _ _ ?_; clear hK K
    refine awp_seq ?_
    refine awp_seq_k fun K hK => ?_
    refine awp_region rfl ?_
    simp only [List.length_map, RR, seval]
    refine hK _ _ ?_; clear hK K
    refine awp_name fun F1 M1 hfr hH => ?_
    have g1 := hfr 1
    have g2 := hfr 2
    have g4 := hfr 4
    have g5 := hfr 5
    have gb2 := hH b2
    try simp only [List.length_map, RR, seval] at g1 g2 g4 g5 gb2
    have f1 := g1; clear g1
    have f2 := g2; clear g2
    have f4 := g4; clear g4
    have f5 := g5; clear g5
    have hb2 := gb2; clear gb2
    clear hfr hH
    refine awp_block ?_
    refine awp_each [1, 2] (l.length) (fun k fr M => fr 5 = .int .i64 (k : Nat) ∧ M b2 = M1 b2 ∧ knT K l = knT K (l.drop k)) ⟨f5, rfl, by rw [List.drop_zero]⟩ ?_
    rintro k F2 M2 hk0 ⟨fx, gb2, hall⟩ agx K0 hK0
    have f1 := (agx 1 rfl).trans f1
    have f2 := (agx 2 rfl).trans f2
    have f5 := fx; clear fx
    have hb2 := gb2.trans hb2
    have ag0 := agree.refl [1, 2] F2
    have e0_b2 := gb2; clear gb2
    clear agx
    refine awp_seq ?_
    refine awp_seq_k fun K hK => ?_
    refine awp_region rfl ?_
    simp only [f1, f2, f5, hb2, List.length_map, RR, seval]
    refine hK _ _ ?_; clear hK K
    refine awp_if _ rfl (fun hc => ?_) (fun hc => ?_)
    · have hlt0 : k < l.length := by have := of_decide_eq_true hc; omega
      clear hc
      have hg := getS (List.getElem?_eq_getElem hlt0)
      have hm := List.getElem_mem hlt0
      have hoe := hok.all _ hm
      have hsz := szS_mem hm
      rw [List.drop_eq_getElem_cons hlt0, knT_cons, knM_eq] at hall
      generalize l[k] = e at hg hall hoe hsz
      have hz := e.sz_eq
      have hE := hKn e.es hoe.es
      have hT := ih (szS e.thn) (by omega) e.thn (Nat.le_refl _) hoe.thn
      have hU := ih (szS e.els) (by omega) e.els (Nat.le_refl _) hoe.els
      have hf := hFn e.name
      have z1 := hkp e.name
      generalize K e.name = K1 at hall z1
      generalize knL K e.es = K2 at hall hE
      generalize knT K e.thn = K4 at hall hT
      generalize knT K e.els = K5 at hall hU
      generalize optI (placeN (p.funs.map Fu.name) e.name) = pl at hf z1
      obtain ⟨K3, z3⟩ : ∃ b, decide (e.kind = 6) = b := ⟨_, rfl⟩
      rw [z3] at hall
      clear ih hFn hkp hoe hok hKn
      refine awp_skip ?_; try simp only [RR]
      refine awp_seq ?_
      refine awp_block ?_
      refine awp_seq_k fun K hK => ?_
      refine awp_region_draw2 (fun x => x ≠ b2) [(0, 3), (1, 3), (2, 3), (3, 3), (4, 1), (5, 3), (6, 3), (7, 1), (8, 3), (9, 3), (10, 3), (11, 3), (12, 1), (13, 1), (14, 3), (15, 3), (16, 3), (17, 1), (18, 3), (19, 3), (20, 3), (21, 3), (22, 1), (23, 1), (24, 3), (25, 3), (26, 3), (27, 1), (28, 3), (29, 3), (30, 3), (31, 3), (32, 1), (33, 1), (34, 3), (35, 3), (36, 3), (37, 1), (38, 3), (39, 3), (40, 3), (41, 3), (42, 1), (43, 1), (44, 3), (45, 3)] [] draws (by kernel_rfl) rfl rfl ?_
      simp only [emitF, markOf, touch_mp, touch_imp, touch_nmp, ne_eq, not_true_eq_false, and_false, false_and, not_false_eq_true, f1, f2, f5, hb2, List.length_map, hg, z1, z3, RR, seval]
      all_goals try ((first | refine awpG_splitN (fun h => ?_) (fun h => ?_) | refine awpG_split (fun h => ?_) (fun h => ?_)) <;> simp only [h, emitF, markOf, touch_mp, touch_imp, touch_nmp, ne_eq, not_true_eq_false, and_false, false_and, not_false_eq_true, f1, f2, f5, hb2, List.length_map, hg, z1, z3, RR, seval])
      all_goals try (refine awpC_pure' (hf) ?_; simp only [emitF, markOf, touch_mp, touch_imp, touch_nmp, ne_eq, not_true_eq_false, and_false, false_and, not_false_eq_true, f1, f2, f5, hb2, List.length_map, hg, z1, z3, RR, seval])
      all_goals try ((first | refine awpG_splitN (fun h => ?_) (fun h => ?_) | refine awpG_split (fun h => ?_) (fun h => ?_)) <;> simp only [h, emitF, markOf, touch_mp, touch_imp, touch_nmp, ne_eq, not_true_eq_false, and_false, false_and, not_false_eq_true, f1, f2, f5, hb2, List.length_map, hg, z1, z3, RR, seval])
      all_goals try (refine awpC_pure' (hE) ?_; simp only [emitF, markOf, touch_mp, touch_imp, touch_nmp, ne_eq, not_true_eq_false, and_false, false_and, not_false_eq_true, f1, f2, f5, hb2, List.length_map, hg, z1, z3, RR, seval])
      all_goals try ((first | refine awpG_splitN (fun h => ?_) (fun h => ?_) | refine awpG_split (fun h => ?_) (fun h => ?_)) <;> simp only [h, emitF, markOf, touch_mp, touch_imp, touch_nmp, ne_eq, not_true_eq_false, and_false, false_and, not_false_eq_true, f1, f2, f5, hb2, List.length_map, hg, z1, z3, RR, seval])
      all_goals try (refine awpC_pure' (hT) ?_; simp only [emitF, markOf, touch_mp, touch_imp, touch_nmp, ne_eq, not_true_eq_false, and_false, false_and, not_false_eq_true, f1, f2, f5, hb2, List.length_map, hg, z1, z3, RR, seval])
      all_goals try ((first | refine awpG_splitN (fun h => ?_) (fun h => ?_) | refine awpG_split (fun h => ?_) (fun h => ?_)) <;> simp only [h, emitF, markOf, touch_mp, touch_imp, touch_nmp, ne_eq, not_true_eq_false, and_false, false_and, not_false_eq_true, f1, f2, f5, hb2, List.length_map, hg, z1, z3, RR, seval])
      all_goals try (refine awpC_pure' (hU) ?_; simp only [emitF, markOf, touch_mp, touch_imp, touch_nmp, ne_eq, not_true_eq_false, and_false, false_and, not_false_eq_true, f1, f2, f5, hb2, List.length_map, hg, z1, z3, RR, seval])
      all_goals
        refine hK _ _ ?_; clear hK K
        refine awp_if _ rfl (fun hc4 => ?_) (fun hc4 => ?_)
        · try (cases hc4; done)
          all_goals
            refine awp_seq_k fun K hK => ?_
            refine awp_region rfl ?_
            simp only [f1, f2, f5, hb2, List.length_map, hg, z1, z3, RR, seval]
            refine hK _ _ ?_; clear hK K
            refine awp_ret ?_; simp only [bodyQ, aresult, ares, f1, f2, f5, hb2, List.length_map, hg, z1, z3, RR, seval]
            refine Gives.pure ?_
            rw [hall]
            clear hE hT hU hf z1 z3
            simp_all
        · try (cases hc4; done)
          all_goals
            refine awp_skip ?_; try simp only [RR]
            refine awp_region rfl ?_
            simp only [f1, f2, f5, hb2, List.length_map, hg, z1, z3, RR, seval]
            try rw [IntWalk.i64_in _ (by omega)]
            refine hK0 _ _ hlt0 ⟨by first | rfl | (simp only [upd_app, seval]; rfl), (by first | exact e0_b2 | (simp only [upd_app, seval]; first | done | exact e0_b2)), by rw [hall]; clear hE hT hU hf z1 z3; simp_all⟩ (by repeat (first | exact ag0 | refine agree.upd rfl ?_))
    · have hkn0 : k = l.length := by have := of_decide_eq_false hc; omega
      clear hc
      refine awp_exit ?_; simp only [RR, seval]
      refine awp_seq_k fun K hK => ?_
      refine awp_region rfl ?_
      simp only [f1, f2, f5, hb2, List.length_map, RR, seval]
      refine hK _ _ ?_; clear hK K
      refine awp_ret ?_; simp only [bodyQ, aresult, ares, f1, f2, f5, hb2, List.length_map, RR, seval]
      refine Gives.pure ?_
      rw [hall, hkn0, List.drop_length, knT_nil]
end Go.Proofs.YtefjogkgeelbdaaDoor

namespace Go.Proofs.YtefjogkgeelbdaaDoor
open Go.Al
theorem wdF_place (p : Pg) (s : Str) (h : knF p s = true) : ∃ (k : Nat) (g : Fu), placeN (p.funs.map Fu.name) s = some k ∧ p.funs[k]? = some g ∧ wdF p s = g.word := by
  have h1 : knF p s = ((placeN (p.funs.map Fu.name) s).bind fun k => p.funs[k]?).isSome := by simp only [knF, fnOf_place]
  have h2 : wdF p s = match (placeN (p.funs.map Fu.name) s).bind (fun k => p.funs[k]?) with | some f => f.word | none => false := by simp only [wdF, fnOf_place] <;> rfl
  cases hc : placeN (p.funs.map Fu.name) s with
  | none => rw [h1, hc] at h; cases h
  | some k =>
    have hlt := (placeN_lt _ _ _ hc).1
    rw [List.length_map] at hlt
    refine ⟨k, p.funs[k], rfl, List.getElem?_eq_getElem hlt, ?_⟩
    rw [h2, hc]
    simp [List.getElem?_eq_getElem hlt]
set_option maxHeartbeats 4000000 in
theorem Fits_con (p : Pg) (hp : p.ok) (w : Bool) (n : Nat) : ∀ l : List Sm, szS l ≤ n → okS l → knT (knF p) l = true → PCon env 38 [p.av, .bool w, .isl 5 (l.map Sm.row)] (.bool (fitT (wdF p) w l)) := by
  induction n using Nat.strongRecOn with
  | _ n ih =>
    intro l hn hok hkn
    have hfit := hok.fit
    have hWd := fun (x : List Ex) (h : okE x) => Words_con p x h.fit fun e he => Type_con p hp _ e (Nat.le_refl _) (h.all e he)
    have hBl := fun (x : List Ex) (h : okE x) => Bools_con p x h.fit fun e he => Type_con p hp _ e (Nat.le_refl _) (h.all e he)
    have hFn := fun s => Function_con p hp.ffit s
    have hwd := fun s h => wdF_place p s h
    have hff := hp.ffit
    generalize wdF p = W at *
    clear hp
    simp only [Pg.av, Pg.row, fitL] at *
    refine con_of 80 [.tmp 6] Tryd.func38 rfl rfl rfl rfl ?_
    refine awp_seq_k fun K hK => ?_
    refine awp_region rfl ?_
    simp only [List.length_map, RR, seval]
    refine awpN_intro fun b3 hn3 => ?_
    simp only [List.length_map, RR, seval]
    refine hK _ _ ?_; clear hK K
    refine awp_seq ?_
    refine awp_seq_k fun K hK => ?_
    refine awp_region rfl ?_
    simp only [List.length_map, RR, seval]
    refine hK _ _ ?_; clear hK K
    refine awp_name fun F1 M1 hfr hH => ?_
    have g1 := hfr 1
    have g2 := hfr 2
    have g3 := hfr 3
    have g6 := hfr 6
    have g7 := hfr 7
    have gb3 := hH b3
    try simp only [List.length_map, RR, seval] at g1 g2 g3 g6 g7 gb3
    have f1 := g1; clear g1
    have f2 := g2; clear g2
    have f3 := g3; clear g3
    have f6 := g6; clear g6
    have f7 := g7; clear g7
    have hb3 := gb3; clear gb3
    clear hfr hH
    refine awp_block ?_
    refine awp_each [1, 2, 3] (l.length) (fun k fr M => fr 7 = .int .i64 (k : Nat) ∧ M b3 = M1 b3 ∧ fitT W w l = fitT W w (l.drop k) ∧ knT (knF p) (l.drop k) = true) ⟨f7, rfl, by rw [List.drop_zero], by rw [List.drop_zero]; exact hkn⟩ ?_
    rintro k F2 M2 hk0 ⟨fx, gb3, hall, hkd⟩ agx K0 hK0
    have f1 := (agx 1 rfl).trans f1
    have f2 := (agx 2 rfl).trans f2
    have f3 := (agx 3 rfl).trans f3
    have f7 := fx; clear fx
    have hb3 := gb3.trans hb3
    have ag0 := agree.refl [1, 2, 3] F2
    have e0_b3 := gb3; clear gb3
    clear agx
    refine awp_seq ?_
    refine awp_seq_k fun K hK => ?_
    refine awp_region rfl ?_
    simp only [f1, f2, f3, f7, hb3, List.length_map, RR, seval]
    refine hK _ _ ?_; clear hK K
    refine awp_if _ rfl (fun hc => ?_) (fun hc => ?_)
    · have hlt0 : k < l.length := by have := of_decide_eq_true hc; omega
      clear hc
      have hg := getS (List.getElem?_eq_getElem hlt0)
      have hm := List.getElem_mem hlt0
      have hoe := hok.all _ hm
      have hsz := szS_mem hm
      rw [List.drop_eq_getElem_cons hlt0, fitT_cons, fitM_eq] at hall
      rw [List.drop_eq_getElem_cons hlt0, knT_cons, knM_eq] at hkd
      generalize l[k] = e at hg hall hkd hoe hsz
      have hz := e.sz_eq
      simp only [Bool.and_eq_true] at hkd
      have hE1 := hWd e.es hoe.es
      have hE2 := hBl e.es hoe.es
      have hT := ih (szS e.thn) (by omega) e.thn (Nat.le_refl _) hoe.thn hkd.1.1.2
      have hU := ih (szS e.els) (by omega) e.els (Nat.le_refl _) hoe.els hkd.1.2
      have hf := hFn e.name
      have z1 : decide (e.kind = 6) = true → ∃ (k : Nat) (g : Fu), placeN (p.funs.map Fu.name) e.name = some k ∧ p.funs[k]? = some g ∧ W e.name = g.word := fun h => hwd _ (by have := hkd.1.1.1.1; rw [h] at this; simpa using this)
      obtain ⟨pl, g, y1, y2, y3⟩ : ∃ (pl : Nat) (g : Fu), (decide (e.kind = 6) = true → optI (placeN (p.funs.map Fu.name) e.name) = (pl : Int)) ∧ (decide (e.kind = 6) = true → (p.funs.map Fu.row)[pl]? = some [.str g.name, .isl 1 (g.params.map strRow), .isl 1 (g.locs.map strRow), .bool g.word, .isl 5 (g.body.map Sm.row)]) ∧ (decide (e.kind = 6) && W e.name) = (decide (e.kind = 6) && g.word) := by
        cases h6 : decide (e.kind = 6) with
        | false => exact ⟨0, ⟨[], [], [], false, []⟩, (fun h => by cases h), (fun h => by cases h), rfl⟩
        | true =>
          obtain ⟨k, g, q1, q2, q3⟩ := z1 h6
          exact ⟨k, g, (fun _ => by rw [q1]; rfl), (fun _ => getF q2), by rw [q3]⟩
      rw [y3] at hall
      have hwant : wantS e.kind = if decide (e.kind = 4 ∨ e.kind = 5) = true then 2 else 1 := by simp only [wantS, decide_eq_true_eq]
      rw [hwant] at hall
      generalize fitT W w e.thn = K4 at hall hT
      generalize fitT W w e.els = K5 at hall hU
      generalize g.word = WG at hall y2
      have hlen : decide ((0 : Int) < (e.es.length : Int)) = decide (0 < e.es.length) := by rw [Bool.eq_iff_iff]; simp only [decide_eq_true_eq]; omega
      obtain ⟨K7, z7⟩ : ∃ b, decide (e.kind = 7) = b := ⟨_, rfl⟩
      obtain ⟨K8, z8⟩ : ∃ b, decide (0 < e.es.length) = b := ⟨_, rfl⟩
      obtain ⟨K6, z6⟩ : ∃ b, decide (e.kind = 6) = b := ⟨_, rfl⟩
      rw [z6] at y1 y2
      rw [z6, z7, z8] at hall
      clear ih hFn hoe hok hWd hBl hwd z1 y3
      cases K6
      all_goals
        refine awp_skip ?_; try simp only [RR]
        refine awp_seq ?_
        refine awp_block ?_
        refine awp_seq_k fun K hK => ?_
        refine awp_region rfl ?_
        simp only [f1, f2, f3, f7, hb3, List.length_map, hg, hlen, z6, z7, z8, y1, y2, RR, seval]
        refine awpN_intro fun b8 hn8 => ?_
        have nb8_b3 : b8 ≠ b3 := fun e => by rw [e] at hn8; simp only [f1, f2, f3, f7, hb3, List.length_map, hg, hlen, z6, z7, z8, y1, y2, RR, seval, reduceCtorEq] at hn8
        have nb3_b8 : b3 ≠ b8 := fun e => nb8_b3 e.symm
        simp only [f1, f2, f3, f7, hb3, nb8_b3, nb3_b8, List.length_map, hg, hlen, z6, z7, z8, y1, y2, RR, seval]
        refine hK _ _ ?_; clear hK K
        refine awp_seq ?_
        refine awp_seq_k fun K hK => ?_
        refine awp_region rfl ?_
        simp only [f1, f2, f3, f7, hb3, nb8_b3, nb3_b8, List.length_map, hg, hlen, z6, z7, z8, y1, y2, RR, seval]
        repeat' ((first | refine awpG_splitN (fun h => ?_) (fun h => ?_) | refine awpG_split (fun h => ?_) (fun h => ?_)) <;> simp only [h, f1, f2, f3, f7, hb3, nb8_b3, nb3_b8, List.length_map, hg, hlen, z6, z7, z8, y1, y2, RR, seval])
        all_goals
          refine hK _ _ ?_; clear hK K
          refine awp_name fun F3 M3 hfr hH => ?_
          have g1 := hfr 1
          have g2 := hfr 2
          have g3 := hfr 3
          have g6 := hfr 6
          have g7 := hfr 7
          have g8 := hfr 8
          have g26 := hfr 26
          have gb3 := hH b3
          have gb8 := hH b8
          try simp only [f1, f2, f3, f7, hb3, nb8_b3, nb3_b8, List.length_map, hg, hlen, z6, z7, z8, y1, y2, RR, seval] at g1 g2 g3 g6 g7 g8 g26 gb3 gb8
          have ag0 : agree [1, 2, 3] F2 F3 := agree.same hfr (by repeat (first | exact ag0 | refine agree.upd rfl ?_))
          have e0_b3 := (hH b3).trans (by first | exact e0_b3 | (simp only [nb8_b3, nb3_b8, upd_app, seval]; first | done | exact e0_b3))
          have f1 := g1; clear g1
          have f2 := g2; clear g2
          have f3 := g3; clear g3
          have f6 := g6; clear g6
          have f7 := g7; clear g7
          have f8 := g8; clear g8
          have f26 := g26; clear g26
          have hb3 := gb3; clear gb3
          have hb8 := gb8; clear gb8
          clear hfr hH
          refine awp_cutP (fun fr M => agree [1, 2, 3, 7, 8] F3 fr ∧ M b3 = M3 b3 ∧ M b8 = M3 b8 ∧ (allT W e.es (if decide (e.kind = 4 ∨ e.kind = 5) = true then 2 else 1) = true)) (fun KC5 hKC5 => ?_) ?_
          · have agC5 := agree.refl [1, 2, 3, 7, 8] F3
            have eC5_b3 : M3 b3 = M3 b3 := rfl
            have eC5_b8 : M3 b8 = M3 b8 := rfl
            refine awp_if _ (by first | rfl | exact f26) (fun hc5 => ?_) (fun hc5 => ?_)
            · try (cases hc5; done)
              all_goals
                have hA2 : (if decide (e.kind = 4 ∨ e.kind = 5) = true then (2 : Int) else 1) = 2 := by rw [if_pos]; first | simp [of_decide_eq_true h] | simp [of_decide_eq_true hc5]
                rw [hA2] at hall
                refine awp_seq_k fun K hK => ?_
                refine awp_region rfl ?_
                simp only [f1, f2, f3, f6, f7, f8, f26, hb3, hb8, nb8_b3, nb3_b8, List.length_map, hg, hlen, z6, z7, z8, y1, y2, RR, seval]
                refine awpC_pure' (hE2) ?_
                simp only [f1, f2, f3, f6, f7, f8, f26, hb3, hb8, nb8_b3, nb3_b8, List.length_map, hg, hlen, z6, z7, z8, y1, y2, RR, seval]
                refine hK _ _ ?_; clear hK K
                refine awp_if _ rfl (fun hc6 => ?_) (fun hc6 => ?_)
                · refine awp_seq_k fun K hK => ?_
                  refine awp_region rfl ?_
                  simp only [f1, f2, f3, f6, f7, f8, f26, hb3, hb8, nb8_b3, nb3_b8, List.length_map, hg, hlen, z6, z7, z8, y1, y2, RR, seval]
                  refine hK _ _ ?_; clear hK K
                  refine awp_ret ?_; simp only [bodyQ, aresult, ares, f1, f2, f3, f6, f7, f8, f26, hb3, hb8, nb8_b3, nb3_b8, List.length_map, hg, hlen, z6, z7, z8, y1, y2, RR, seval]
                  refine Gives.pure ?_
                  rw [hall, show allT W e.es 2 = false by simpa using hc6]
                  simp
                · refine awp_skip ?_; try simp only [RR]
                  refine hKC5 _ _ ⟨(by repeat (first | exact agC5 | refine agree.upd rfl ?_)), (by first | exact eC5_b3 | (simp only [nb8_b3, nb3_b8, upd_app, seval]; first | done | exact eC5_b3)), (by first | exact eC5_b8 | (simp only [nb8_b3, nb3_b8, upd_app, seval]; first | done | exact eC5_b8)), by rw [hA2]; first | simpa using hc6 | simpa using hc8⟩
            · try (cases hc5; done)
              all_goals
                have hA2 : (if decide (e.kind = 4 ∨ e.kind = 5) = true then (2 : Int) else 1) = 1 := by rw [if_neg]; simp [of_decide_eq_false h, of_decide_eq_false hc5]
                rw [hA2] at hall
                refine awp_seq_k fun K hK => ?_
                refine awp_region rfl ?_
                simp only [f1, f2, f3, f6, f7, f8, f26, hb3, hb8, nb8_b3, nb3_b8, List.length_map, hg, hlen, z6, z7, z8, y1, y2, RR, seval]
                refine awpC_pure' (hE1) ?_
                simp only [f1, f2, f3, f6, f7, f8, f26, hb3, hb8, nb8_b3, nb3_b8, List.length_map, hg, hlen, z6, z7, z8, y1, y2, RR, seval]
                refine hK _ _ ?_; clear hK K
                refine awp_if _ rfl (fun hc8 => ?_) (fun hc8 => ?_)
                · refine awp_seq_k fun K hK => ?_
                  refine awp_region rfl ?_
                  simp only [f1, f2, f3, f6, f7, f8, f26, hb3, hb8, nb8_b3, nb3_b8, List.length_map, hg, hlen, z6, z7, z8, y1, y2, RR, seval]
                  refine hK _ _ ?_; clear hK K
                  refine awp_ret ?_; simp only [bodyQ, aresult, ares, f1, f2, f3, f6, f7, f8, f26, hb3, hb8, nb8_b3, nb3_b8, List.length_map, hg, hlen, z6, z7, z8, y1, y2, RR, seval]
                  refine Gives.pure ?_
                  rw [hall, show allT W e.es 1 = false by simpa using hc8]
                  simp
                · refine awp_skip ?_; try simp only [RR]
                  refine hKC5 _ _ ⟨(by repeat (first | exact agC5 | refine agree.upd rfl ?_)), (by first | exact eC5_b3 | (simp only [nb8_b3, nb3_b8, upd_app, seval]; first | done | exact eC5_b3)), (by first | exact eC5_b8 | (simp only [nb8_b3, nb3_b8, upd_app, seval]; first | done | exact eC5_b8)), by rw [hA2]; first | simpa using hc6 | simpa using hc8⟩
          rintro F4 M4 ⟨agx, gb3, gb8, hA⟩
          have f1 := (agx 1 rfl).trans f1
          have f2 := (agx 2 rfl).trans f2
          have f3 := (agx 3 rfl).trans f3
          have f7 := (agx 7 rfl).trans f7
          have f8 := (agx 8 rfl).trans f8
          have hb3 := gb3.trans hb3
          have hb8 := gb8.trans hb8
          have ag0 : agree [1, 2, 3] F2 F4 := agree.sub agx rfl ag0
          have e0_b3 := gb3.trans e0_b3
          clear agx
          clear gb3
          clear gb8
          simp only [RR, seval]
          rw [hA, Bool.true_and] at hall
          clear hA
          refine awp_seq ?_
          refine awp_seq_k fun K hK => ?_
          refine awp_region_draw2 (fun x => x ≠ b3 ∧ x ≠ b8) [(0, 3), (1, 1), (2, 3), (3, 3), (4, 3), (5, 0), (6, 1), (7, 3), (8, 1), (9, 1), (10, 3), (11, 3), (12, 1), (13, 3), (14, 3), (15, 3), (16, 1), (17, 3), (18, 3), (19, 3), (20, 1), (21, 3), (22, 3), (23, 3), (24, 3), (25, 3), (26, 3), (27, 3), (28, 3)] [] draws (by kernel_rfl) rfl rfl ?_
          simp only [emitF, markOf, touch_mp, touch_imp, touch_nmp, ne_eq, not_true_eq_false, and_false, false_and, not_false_eq_true, f1, f2, f3, f7, f8, hb3, hb8, nb8_b3, nb3_b8, List.length_map, hg, hlen, z6, z7, z8, y1, y2, RR, seval]
          all_goals try ((first | refine awpG_splitN (fun h => ?_) (fun h => ?_) | refine awpG_split (fun h => ?_) (fun h => ?_)) <;> simp only [h, emitF, markOf, touch_mp, touch_imp, touch_nmp, ne_eq, not_true_eq_false, and_false, false_and, not_false_eq_true, f1, f2, f3, f7, f8, hb3, hb8, nb8_b3, nb3_b8, List.length_map, hg, hlen, z6, z7, z8, y1, y2, RR, seval])
          all_goals try (refine awpC_pure' (hf) ?_; simp only [emitF, markOf, touch_mp, touch_imp, touch_nmp, ne_eq, not_true_eq_false, and_false, false_and, not_false_eq_true, f1, f2, f3, f7, f8, hb3, hb8, nb8_b3, nb3_b8, List.length_map, hg, hlen, z6, z7, z8, y1, y2, RR, seval])
          all_goals try ((first | refine awpG_splitN (fun h => ?_) (fun h => ?_) | refine awpG_split (fun h => ?_) (fun h => ?_)) <;> simp only [h, emitF, markOf, touch_mp, touch_imp, touch_nmp, ne_eq, not_true_eq_false, and_false, false_and, not_false_eq_true, f1, f2, f3, f7, f8, hb3, hb8, nb8_b3, nb3_b8, List.length_map, hg, hlen, z6, z7, z8, y1, y2, RR, seval])
          all_goals try ((first | refine awpG_splitN (fun h => ?_) (fun h => ?_) | refine awpG_split (fun h => ?_) (fun h => ?_)) <;> simp only [h, emitF, markOf, touch_mp, touch_imp, touch_nmp, ne_eq, not_true_eq_false, and_false, false_and, not_false_eq_true, f1, f2, f3, f7, f8, hb3, hb8, nb8_b3, nb3_b8, List.length_map, hg, hlen, z6, z7, z8, y1, y2, RR, seval])
          all_goals try ((first | refine awpG_splitN (fun h => ?_) (fun h => ?_) | refine awpG_split (fun h => ?_) (fun h => ?_)) <;> simp only [h, emitF, markOf, touch_mp, touch_imp, touch_nmp, ne_eq, not_true_eq_false, and_false, false_and, not_false_eq_true, f1, f2, f3, f7, f8, hb3, hb8, nb8_b3, nb3_b8, List.length_map, hg, hlen, z6, z7, z8, y1, y2, RR, seval])
          all_goals try ((first | refine awpG_splitN (fun h => ?_) (fun h => ?_) | refine awpG_split (fun h => ?_) (fun h => ?_)) <;> simp only [h, emitF, markOf, touch_mp, touch_imp, touch_nmp, ne_eq, not_true_eq_false, and_false, false_and, not_false_eq_true, f1, f2, f3, f7, f8, hb3, hb8, nb8_b3, nb3_b8, List.length_map, hg, hlen, z6, z7, z8, y1, y2, RR, seval])
          all_goals try ((first | refine awpG_splitN (fun h => ?_) (fun h => ?_) | refine awpG_split (fun h => ?_) (fun h => ?_)) <;> simp only [h, emitF, markOf, touch_mp, touch_imp, touch_nmp, ne_eq, not_true_eq_false, and_false, false_and, not_false_eq_true, f1, f2, f3, f7, f8, hb3, hb8, nb8_b3, nb3_b8, List.length_map, hg, hlen, z6, z7, z8, y1, y2, RR, seval])
          all_goals
            refine hK _ _ ?_; clear hK K
            refine awp_if _ rfl (fun hc10 => ?_) (fun hc10 => ?_)
            · try (cases hc10; done)
              all_goals
                refine awp_seq_k fun K hK => ?_
                refine awp_region rfl ?_
                simp only [f1, f2, f3, f7, f8, hb3, hb8, nb8_b3, nb3_b8, List.length_map, hg, hlen, z6, z7, z8, y1, y2, RR, seval]
                refine hK _ _ ?_; clear hK K
                refine awp_ret ?_; simp only [bodyQ, aresult, ares, f1, f2, f3, f7, f8, hb3, hb8, nb8_b3, nb3_b8, List.length_map, hg, hlen, z6, z7, z8, y1, y2, RR, seval]
                refine Gives.pure ?_
                rw [hall]
                clear hT hU hf y1 y2 hE1 hE2
                simp_all
            · try (cases hc10; done)
              all_goals
                refine awp_skip ?_; try simp only [RR]
                refine awp_seq_k fun K hK => ?_
                refine awp_region rfl ?_
                simp only [f1, f2, f3, f7, f8, hb3, hb8, nb8_b3, nb3_b8, List.length_map, hg, hlen, z6, z7, z8, y1, y2, RR, seval]
                all_goals try (refine awpC_pure' (hT) ?_; simp only [f1, f2, f3, f7, f8, hb3, hb8, nb8_b3, nb3_b8, List.length_map, hg, hlen, z6, z7, z8, y1, y2, RR, seval])
                all_goals try ((first | refine awpG_splitN (fun h => ?_) (fun h => ?_) | refine awpG_split (fun h => ?_) (fun h => ?_)) <;> simp only [h, f1, f2, f3, f7, f8, hb3, hb8, nb8_b3, nb3_b8, List.length_map, hg, hlen, z6, z7, z8, y1, y2, RR, seval])
                all_goals try (refine awpC_pure' (hU) ?_; simp only [f1, f2, f3, f7, f8, hb3, hb8, nb8_b3, nb3_b8, List.length_map, hg, hlen, z6, z7, z8, y1, y2, RR, seval])
                all_goals
                  refine hK _ _ ?_; clear hK K
                  refine awp_if _ rfl (fun hc12 => ?_) (fun hc12 => ?_)
                  · try (cases hc12; done)
                    all_goals
                      refine awp_seq_k fun K hK => ?_
                      refine awp_region rfl ?_
                      simp only [f1, f2, f3, f7, f8, hb3, hb8, nb8_b3, nb3_b8, List.length_map, hg, hlen, z6, z7, z8, y1, y2, RR, seval]
                      refine hK _ _ ?_; clear hK K
                      refine awp_ret ?_; simp only [bodyQ, aresult, ares, f1, f2, f3, f7, f8, hb3, hb8, nb8_b3, nb3_b8, List.length_map, hg, hlen, z6, z7, z8, y1, y2, RR, seval]
                      refine Gives.pure ?_
                      rw [hall]
                      clear hT hU hf y1 y2 hE1 hE2
                      simp_all
                  · try (cases hc12; done)
                    all_goals
                      refine awp_skip ?_; try simp only [RR]
                      refine awp_region rfl ?_
                      simp only [f1, f2, f3, f7, f8, hb3, hb8, nb8_b3, nb3_b8, List.length_map, hg, hlen, z6, z7, z8, y1, y2, RR, seval]
                      try rw [IntWalk.i64_in _ (by omega)]
                      refine hK0 _ _ hlt0 ⟨by first | rfl | (simp only [upd_app, seval]; rfl), (by first | exact e0_b3 | (simp only [nb8_b3, nb3_b8, upd_app, seval]; first | done | exact e0_b3)), (by rw [hall]; clear hT hU hf y1 y2 hE1 hE2; simp_all), hkd.2⟩ (by repeat (first | exact ag0 | refine agree.upd rfl ?_))
    · have hkn0 : k = l.length := by have := of_decide_eq_false hc; omega
      clear hc
      refine awp_exit ?_; simp only [RR, seval]
      refine awp_seq_k fun K hK => ?_
      refine awp_region rfl ?_
      simp only [f1, f2, f3, f7, hb3, List.length_map, RR, seval]
      refine hK _ _ ?_; clear hK K
      refine awp_ret ?_; simp only [bodyQ, aresult, ares, f1, f2, f3, f7, hb3, List.length_map, RR, seval]
      refine Gives.pure ?_
      rw [hall, hkn0, List.drop_length, fitT_nil]
end Go.Proofs.YtefjogkgeelbdaaDoor

namespace Go.Proofs.YtefjogkgeelbdaaDoor
open Go.Al
theorem rExpr_con (p : Pg) (hp : p.ok) (e : Ex) (he : e.ok) : PCon env 16 [p.av, .agg e.row] (.tup [.int .i64 (exprT p e).1, .int .i64 (exprT p e).2]) := by
  have hKn := Known_con p hp _ [e] (Nat.le_refl _) ⟨by simp [fitL], fun x hx => by rw [List.mem_singleton] at hx; rw [hx]; exact he⟩
  have hT := Type_con p hp _ e (Nat.le_refl _) he
  have hX : exprT p e = if knE (knF p) e = true then (if tyE (wdF p) e = 0 then (0, 5) else (tyE (wdF p) e, 0)) else (0, 4) := rfl
  rw [knL_cons, knL_nil, Bool.and_true, List.map_cons, List.map_nil] at hKn
  generalize exprT p e = res at *
  generalize knE (knF p) e = K at *
  generalize tyE (wdF p) e = t at *
  rw [e.row_eq] at *
  simp only [Pg.av, Pg.row] at *
  refine con_of 18 [.tmp 4, .tmp 5] Tryd.func16 rfl rfl rfl rfl ?_
  refine awp_seq_k fun K hK => ?_
  refine awp_region rfl ?_
  simp only [RR, seval]
  refine awpN_intro fun b2 hn2 => ?_
  simp only [RR, seval]
  refine awpN_intro fun b3 hn3 => ?_
  have nb3_b2 : b3 ≠ b2 := fun e => by rw [e] at hn3; simp only [RR, seval, reduceCtorEq] at hn3
  have nb2_b3 : b2 ≠ b3 := fun e => nb3_b2 e.symm
  simp only [nb3_b2, nb2_b3, RR, seval]
  refine hK _ _ ?_; clear hK K
  refine awp_seq ?_
  refine awp_seq_k fun K hK => ?_
  refine awp_region rfl ?_
  simp only [nb3_b2, nb2_b3, RR, seval]
  refine awpB_sealed ?_
  simp only [nb3_b2, nb2_b3, RR, seval]
  refine awpC_pure' (hKn) ?_
  simp only [nb3_b2, nb2_b3, RR, seval]
  refine hK _ _ ?_; clear hK K
  refine awp_if _ rfl (fun hc1 => ?_) (fun hc1 => ?_)
  · refine awp_seq_k fun K hK => ?_
    refine awp_region rfl ?_
    simp only [nb3_b2, nb2_b3, RR, seval]
    refine hK _ _ ?_; clear hK K
    refine awp_ret ?_; simp only [bodyQ, aresult, ares, nb3_b2, nb2_b3, RR, seval]
    refine Gives.pure ?_
    rw [hX, if_neg (by simpa using hc1)]
  · refine awp_skip ?_; try simp only [RR]
    refine awp_seq_k fun K hK => ?_
    refine awp_region rfl ?_
    simp only [nb3_b2, nb2_b3, RR, seval]
    refine awpC_pure' (hT) ?_
    simp only [nb3_b2, nb2_b3, RR, seval]
    refine hK _ _ ?_; clear hK K
    refine awp_seq ?_
    refine awp_seq_k fun K hK => ?_
    refine awp_region rfl ?_
    simp only [nb3_b2, nb2_b3, RR, seval]
    refine hK _ _ ?_; clear hK K
    refine awp_if _ rfl (fun hc4 => ?_) (fun hc4 => ?_)
    · refine awp_seq_k fun K hK => ?_
      refine awp_region rfl ?_
      simp only [nb3_b2, nb2_b3, RR, seval]
      refine hK _ _ ?_; clear hK K
      refine awp_ret ?_; simp only [bodyQ, aresult, ares, nb3_b2, nb2_b3, RR, seval]
      refine Gives.pure ?_
      rw [hX, if_pos (by simpa using hc1), if_pos (of_decide_eq_true hc4)]
    · refine awp_skip ?_; try simp only [RR]
      refine awp_seq_k fun K hK => ?_
      refine awp_region rfl ?_
      simp only [nb3_b2, nb2_b3, RR, seval]
      refine hK _ _ ?_; clear hK K
      refine awp_ret ?_; simp only [bodyQ, aresult, ares, nb3_b2, nb2_b3, RR, seval]
      refine Gives.pure ?_
      rw [hX, if_pos (by simpa using hc1), if_neg (of_decide_eq_false hc4)]
theorem rCheckT_con (p : Pg) (hp : p.ok) : PCon env 18 [p.av] (.int .i64 (checkT p)) := by
  have hX : checkT p = if (p.funs.all fun f => knT (knF p) f.body) = true then (if (p.funs.all fun f => fitT (wdF p) f.word f.body) = true then 0 else 5) else 4 := rfl
  have hof := hp.funs
  have hff := hp.ffit
  have hKn := fun (x : List Sm) (h : okS x) => KnownStmts_con p hp _ x (Nat.le_refl _) h
  have hFi := fun (w : Bool) (x : List Sm) (h : okS x) (hk : knT (knF p) x = true) => Fits_con p hp w _ x (Nat.le_refl _) h hk
  generalize checkT p = res at *
  generalize wdF p = W at *
  generalize knF p = Kf at *
  clear hp
  obtain ⟨vs, aa, fs⟩ := p
  simp only [Pg.av, Pg.row, fitL] at *
  refine con_of 43 [.tmp 2] Tryd.func18 rfl rfl rfl rfl ?_
  refine awp_seq_k fun K hK => ?_
  refine awp_region rfl ?_
  simp only [List.length_map, RR, seval]
  refine awpN_intro fun b1 hn1 => ?_
  simp only [List.length_map, RR, seval]
  refine hK _ _ ?_; clear hK K
  refine awp_seq ?_
  refine awp_seq_k fun K hK => ?_
  refine awp_region rfl ?_
  simp only [List.length_map, RR, seval]
  refine hK _ _ ?_; clear hK K
  refine awp_name fun F1 M1 hfr hH => ?_
  have g1 := hfr 1
  have g2 := hfr 2
  have g3 := hfr 3
  have gb1 := hH b1
  try simp only [List.length_map, RR, seval] at g1 g2 g3 gb1
  have f1 := g1; clear g1
  have f2 := g2; clear g2
  have f3 := g3; clear g3
  have hb1 := gb1; clear gb1
  clear hfr hH
  refine awp_block ?_
  refine awp_each [1] (fs.length) (fun k fr M => fr 3 = .int .i64 (k : Nat) ∧ M b1 = M1 b1 ∧ (fs.all fun f => knT Kf f.body) = ((fs.drop k).all fun f => knT Kf f.body)) ⟨f3, rfl, by rw [List.drop_zero]⟩ ?_
  rintro k F2 M2 hk0 ⟨fx, gb1, hall⟩ agx K0 hK0
  have f1 := (agx 1 rfl).trans f1
  have f3 := fx; clear fx
  have hb1 := gb1.trans hb1
  have ag0 := agree.refl [1] F2
  have e0_b1 := gb1; clear gb1
  clear agx
  refine awp_seq ?_
  refine awp_seq_k fun K hK => ?_
  refine awp_region rfl ?_
  simp only [f1, f3, hb1, List.length_map, RR, seval]
  refine hK _ _ ?_; clear hK K
  refine awp_if _ rfl (fun hc => ?_) (fun hc => ?_)
  · have hlt0 : k < fs.length := by have := of_decide_eq_true hc; omega
    clear hc
    have hg := getF (List.getElem?_eq_getElem hlt0)
    have hok := (hof _ (List.getElem_mem hlt0)).body
    rw [List.drop_eq_getElem_cons hlt0, List.all_cons] at hall
    generalize fs[k] = f at hg hall hok
    have hk := hKn f.body hok
    generalize knT Kf f.body = KK at hk hall
    refine awp_skip ?_; try simp only [RR]
    refine awp_seq ?_
    refine awp_block ?_
    refine awp_seq_k fun K hK => ?_
    refine awp_region_draw2 (fun x => x ≠ b1) [(0, 1), (1, 3), (2, 1), (3, 3), (4, 3), (5, 3), (6, 1), (7, 1), (8, 3)] [] draws (by kernel_rfl) rfl rfl ?_
    simp only [emitF, markOf, touch_mp, touch_imp, touch_nmp, ne_eq, not_true_eq_false, and_false, false_and, not_false_eq_true, f1, f3, hb1, List.length_map, hg, RR, seval]
    refine awpC_pure' (hk) ?_
    simp only [emitF, markOf, touch_mp, touch_imp, touch_nmp, ne_eq, not_true_eq_false, and_false, false_and, not_false_eq_true, f1, f3, hb1, List.length_map, hg, RR, seval]
    refine hK _ _ ?_; clear hK K
    refine awp_if _ rfl (fun hc4 => ?_) (fun hc4 => ?_)
    · refine awp_seq_k fun K hK => ?_
      refine awp_region rfl ?_
      simp only [f1, f3, hb1, List.length_map, hg, RR, seval]
      refine hK _ _ ?_; clear hK K
      refine awp_ret ?_; simp only [bodyQ, aresult, ares, f1, f3, hb1, List.length_map, hg, RR, seval]
      refine Gives.pure ?_
      rw [hX, if_neg (by rw [hall, show KK = false by simpa using hc4]; simp)]
    · refine awp_skip ?_; try simp only [RR]
      refine awp_region rfl ?_
      simp only [f1, f3, hb1, List.length_map, hg, RR, seval]
      try rw [IntWalk.i64_in _ (by omega)]
      refine hK0 _ _ hlt0 ⟨by first | rfl | (simp only [upd_app, seval]; rfl), (by first | exact e0_b1 | (simp only [upd_app, seval]; first | done | exact e0_b1)), by rw [hall, show KK = true by simpa using hc4, Bool.true_and]⟩ (by repeat (first | exact ag0 | refine agree.upd rfl ?_))
  · have hkn0 : k = fs.length := by have := of_decide_eq_false hc; omega
    clear hc
    rw [hkn0, List.drop_length, List.all_nil] at hall
    rw [if_pos hall] at hX
    have hkn := List.all_eq_true.1 hall
    refine awp_exit ?_; simp only [RR, seval]
    refine awp_seq ?_
    refine awp_seq_k fun K hK => ?_
    refine awp_region rfl ?_
    simp only [f1, f3, hb1, List.length_map, RR, seval]
    refine hK _ _ ?_; clear hK K
    refine awp_name fun F3 M3 hfr hH => ?_
    have g1 := hfr 1
    have g2 := hfr 2
    have g4 := hfr 4
    have gb1 := hH b1
    try simp only [f1, f3, hb1, List.length_map, RR, seval] at g1 g2 g4 gb1
    have f1 := g1; clear g1
    have f2 := g2; clear g2
    have f4 := g4; clear g4
    have hb1 := gb1; clear gb1
    clear hfr hH
    refine awp_block ?_
    refine awp_each [1] (fs.length) (fun j fr M => fr 4 = .int .i64 (j : Nat) ∧ M b1 = M3 b1 ∧ (fs.all fun f => fitT W f.word f.body) = ((fs.drop j).all fun f => fitT W f.word f.body)) ⟨f4, rfl, by rw [List.drop_zero]⟩ ?_
    rintro j F4 M4 hk2 ⟨fx, gb1, hall2⟩ agx K2 hK2
    have f1 := (agx 1 rfl).trans f1
    have f4 := fx; clear fx
    have hb1 := gb1.trans hb1
    have ag2 := agree.refl [1] F4
    have e2_b1 := gb1; clear gb1
    clear agx
    refine awp_seq ?_
    refine awp_seq_k fun K hK => ?_
    refine awp_region rfl ?_
    simp only [f1, f4, hb1, List.length_map, RR, seval]
    refine hK _ _ ?_; clear hK K
    refine awp_if _ rfl (fun hc => ?_) (fun hc => ?_)
    · have hlt2 : j < fs.length := by have := of_decide_eq_true hc; omega
      clear hc
      have hg := getF (List.getElem?_eq_getElem hlt2)
      have hok := (hof _ (List.getElem_mem hlt2)).body
      have hkf := hkn _ (List.getElem_mem hlt2)
      rw [List.drop_eq_getElem_cons hlt2, List.all_cons] at hall2
      generalize fs[j] = f at hg hall2 hok hkf
      have hk := hFi f.word f.body hok hkf
      generalize fitT W f.word f.body = KK at hk hall2
      refine awp_skip ?_; try simp only [RR]
      refine awp_seq ?_
      refine awp_block ?_
      refine awp_seq_k fun K hK => ?_
      refine awp_region_draw2 (fun x => x ≠ b1) [(0, 1), (1, 3), (2, 1), (3, 3), (4, 3), (5, 3), (6, 1), (7, 3), (8, 1), (9, 3), (10, 3), (11, 3), (12, 1), (13, 1), (14, 3)] [] draws (by kernel_rfl) rfl rfl ?_
      simp only [emitF, markOf, touch_mp, touch_imp, touch_nmp, ne_eq, not_true_eq_false, and_false, false_and, not_false_eq_true, f1, f4, hb1, List.length_map, hg, RR, seval]
      refine awpC_pure' (hk) ?_
      simp only [emitF, markOf, touch_mp, touch_imp, touch_nmp, ne_eq, not_true_eq_false, and_false, false_and, not_false_eq_true, f1, f4, hb1, List.length_map, hg, RR, seval]
      refine hK _ _ ?_; clear hK K
      refine awp_if _ rfl (fun hc9 => ?_) (fun hc9 => ?_)
      · refine awp_seq_k fun K hK => ?_
        refine awp_region rfl ?_
        simp only [f1, f4, hb1, List.length_map, hg, RR, seval]
        refine hK _ _ ?_; clear hK K
        refine awp_ret ?_; simp only [bodyQ, aresult, ares, f1, f4, hb1, List.length_map, hg, RR, seval]
        refine Gives.pure ?_
        rw [hX, if_neg (by rw [hall2, show KK = false by simpa using hc9]; simp)]
      · refine awp_skip ?_; try simp only [RR]
        refine awp_region rfl ?_
        simp only [f1, f4, hb1, List.length_map, hg, RR, seval]
        try rw [IntWalk.i64_in _ (by omega)]
        refine hK2 _ _ hlt2 ⟨by first | rfl | (simp only [upd_app, seval]; rfl), (by first | exact e2_b1 | (simp only [upd_app, seval]; first | done | exact e2_b1)), by rw [hall2, show KK = true by simpa using hc9, Bool.true_and]⟩ (by repeat (first | exact ag2 | refine agree.upd rfl ?_))
    · have hkn2 : j = fs.length := by have := of_decide_eq_false hc; omega
      clear hc
      refine awp_exit ?_; simp only [RR, seval]
      refine awp_seq_k fun K hK => ?_
      refine awp_region rfl ?_
      simp only [f1, f4, hb1, List.length_map, RR, seval]
      refine hK _ _ ?_; clear hK K
      refine awp_ret ?_; simp only [bodyQ, aresult, ares, f1, f4, hb1, List.length_map, RR, seval]
      refine Gives.pure ?_
      rw [hX, if_pos (by rw [hall2, hkn2, List.drop_length]; rfl)]
theorem rSound_con (p : Pg) (hp : p.few) : PCon env 20 [p.av] (.int .i64 (soundT p)) := by
  have hR := Right_con p hp.ok (fun f hf => by have := hp.fs f hf; omega)
  have h1 : rightP p = true → 1 ≤ p.funs.length := fun h => by
    simp only [rightP, Bool.and_eq_true, decide_eq_true_eq] at h
    exact h.1.1.1.2
  have hC := fun h => rCheck_con p hp (h1 h)
  have hT := rCheckT_con p hp.ok
  have hX : soundT p = if rightP p = true then (if checkI p = 0 then checkT p else checkI p) else 7 := rfl
  generalize soundT p = res at *
  generalize checkT p = ct at *
  generalize checkI p = ci at *
  generalize rightP p = rp at *
  simp only [Pg.av, Pg.row] at *
  cases rp with
  | false =>
    refine con_of 14 [.tmp 2] Tryd.func20 rfl rfl rfl rfl ?_
    refine awp_seq_k fun K hK => ?_
    refine awp_region rfl ?_
    simp only [RR, seval]
    refine awpN_intro fun b1 hn1 => ?_
    simp only [RR, seval]
    refine hK _ _ ?_; clear hK K
    refine awp_seq ?_
    refine awp_seq_k fun K hK => ?_
    refine awp_region rfl ?_
    simp only [RR, seval]
    refine awpC_pure' (hR) ?_
    simp only [RR, seval]
    refine hK _ _ ?_; clear hK K
    refine awp_if true rfl (fun _ => ?_) (fun hc => by cases hc)
    refine awp_seq_k fun K hK => ?_
    refine awp_region rfl ?_
    simp only [RR, seval]
    refine hK _ _ ?_; clear hK K
    refine awp_ret ?_; simp only [bodyQ, aresult, ares, RR, seval]
    refine Gives.pure ?_
    rw [hX]
    rfl
  | true =>
    have hC := hC rfl
    rw [if_pos rfl] at hX
    refine con_of 14 [.tmp 2] Tryd.func20 rfl rfl rfl rfl ?_
    refine awp_seq_k fun K hK => ?_
    refine awp_region rfl ?_
    simp only [RR, seval]
    refine awpN_intro fun b1 hn1 => ?_
    simp only [RR, seval]
    refine hK _ _ ?_; clear hK K
    refine awp_seq ?_
    refine awp_seq_k fun K hK => ?_
    refine awp_region rfl ?_
    simp only [RR, seval]
    refine awpC_pure' (hR) ?_
    simp only [RR, seval]
    refine hK _ _ ?_; clear hK K
    refine awp_if false rfl (fun hc => by cases hc) (fun _ => ?_)
    refine awp_skip ?_; try simp only [RR]
    refine awp_seq_k fun K hK => ?_
    refine awp_region rfl ?_
    simp only [RR, seval]
    refine awpC_pure' (hC) ?_
    simp only [RR, seval]
    refine hK _ _ ?_; clear hK K
    refine awp_seq ?_
    refine awp_seq_k fun K hK => ?_
    refine awp_region rfl ?_
    simp only [RR, seval]
    refine hK _ _ ?_; clear hK K
    refine awp_if _ rfl (fun hc4 => ?_) (fun hc4 => ?_)
    · refine awp_seq_k fun K hK => ?_
      refine awp_region rfl ?_
      simp only [RR, seval]
      refine hK _ _ ?_; clear hK K
      refine awp_ret ?_; simp only [bodyQ, aresult, ares, RR, seval]
      refine Gives.pure ?_
      rw [hX, if_neg (by simpa using hc4)]
    · refine awp_skip ?_; try simp only [RR]
      refine awp_seq_k fun K hK => ?_
      refine awp_region rfl ?_
      simp only [RR, seval]
      refine awpC_pure' (hT) ?_
      simp only [RR, seval]
      refine hK _ _ ?_; clear hK K
      refine awp_ret ?_; simp only [bodyQ, aresult, ares, RR, seval]
      refine Gives.pure ?_
      rw [hX, if_pos (by simpa using hc4)]
end Go.Proofs.YtefjogkgeelbdaaDoor
