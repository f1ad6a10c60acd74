/- Chapter 14: a program's size, both sides. -/
import Derived.Test.YtgcncdjnipfolaaDoorSy3
import Derived.Test.YtgcncdjnipfolaaDoorAl4
import Derived.Test.YtgcncdjnipfolaaDoorSy1
set_option linter.unusedSimpArgs false
set_option linter.unusedVariables false
set_option maxRecDepth 10000
namespace Go.Al
def kE : List Ex → Nat
  | [] => 0
  | e :: l => szE e.kids + kE l
def kS : List Sm → Nat
  | [] => 0
  | e :: l => szE e.es + szS e.thn + szS e.els + kS l
theorem kE_sz : ∀ l : List Ex, szE l = l.length + kE l
  | [] => rfl
  | e :: l => by have := kE_sz l; have := e.sz_eq; simp only [szE, kE, List.length_cons]; omega
theorem kS_sz : ∀ l : List Sm, szS l = l.length + kS l
  | [] => rfl
  | e :: l => by have := kS_sz l; have := e.sz_eq; simp only [szS, kS, List.length_cons]; omega
theorem kE_snoc (e : Ex) : ∀ l : List Ex, kE (l ++ [e]) = kE l + szE e.kids
  | [] => by simp [kE]
  | x :: l => by simp only [List.cons_append, kE, kE_snoc e l]; omega
theorem kS_snoc (e : Sm) : ∀ l : List Sm, kS (l ++ [e]) = kS l + (szE e.es + szS e.thn + szS e.els)
  | [] => by simp [kS]
  | x :: l => by simp only [List.cons_append, kS, kS_snoc e l]; omega
theorem kE_take : ∀ (l : List Ex) (k : Nat), kE (l.take k) ≤ kE l
  | [], k => by simp
  | x :: l, 0 => by simp [kE]
  | x :: l, k + 1 => by have := kE_take l k; simp only [List.take_succ_cons, kE]; omega
theorem kS_take : ∀ (l : List Sm) (k : Nat), kS (l.take k) ≤ kS l
  | [], k => by simp
  | x :: l, 0 => by simp [kS]
  | x :: l, k + 1 => by have := kS_take l k; simp only [List.take_succ_cons, kS]; omega
def cntF (f : Fu) : Nat := f.params.length + f.locs.length + szS f.body
def sumF : List Fu → Nat
  | [] => 0
  | f :: l => cntF f + sumF l
theorem sumF_snoc (f : Fu) : ∀ l : List Fu, sumF (l ++ [f]) = sumF l + cntF f
  | [] => by simp [sumF]
  | x :: l => by simp only [List.cons_append, sumF, sumF_snoc f l]; omega
theorem sumF_le (B : Nat) : ∀ l : List Fu, (∀ f ∈ l, cntF f ≤ B) → sumF l ≤ l.length * B
  | [], _ => by simp [sumF]
  | x :: l, h => by
    have := sumF_le B l fun f hf => h f (List.mem_cons_of_mem _ hf)
    have := h x (List.mem_cons_self)
    simp only [sumF, List.length_cons, Nat.succ_mul]; omega
def sizP (p : Pg) : Nat := p.vars.length + p.arrs.length + p.funs.length + sumF p.funs
theorem i64_add {a b : Nat} (h : a + b ≤ 9223372036854775807) : IntKind.wrap .i64 ((a : Int) + (b : Int)) = ((a + b : Nat) : Int) := by rw [IntWalk.i64_in _ (by omega)]; omega
end Go.Al
namespace Go.Proofs.YtgcncdjnipfolaaDoor
open Go.Al
theorem CountExprs_con (n : Nat) : ∀ l : List Ex, szE l ≤ n → n ≤ 1000000000000 → PCon env 24 [.isl 5 (l.map Ex.row)] (.int .i64 ((szE l : Nat) : Int)) := by
  induction n using Nat.strongRecOn with
  | _ n ih =>
    intro l hn hb
    have hz := kE_sz l
    refine con_of 22 [.tmp 2] Tryd.func24 rfl rfl rfl rfl ?_
    refine awp_seq_k fun K hK => ?_
    refine awp_region rfl ?_
    simp only [List.length_map, RR, seval]
    refine hK _ _ ?_; clear hK K
    refine awp_seq_k fun K hK => ?_
    refine awp_region rfl ?_
    simp only [List.length_map, RR, seval]
    refine hK _ _ ?_; clear hK K
    refine awp_seq ?_
    refine awp_seq_k fun K hK => ?_
    refine awp_region rfl ?_
    simp only [List.length_map, RR, seval]
    refine hK _ _ ?_; clear hK K
    refine awp_name fun F1 M1 hfr hH => ?_
    have g0 := hfr 0
    have g2 := hfr 2
    have g3 := hfr 3
    have g4 := hfr 4
    try simp only [List.length_map, RR, seval] at g0 g2 g3 g4
    have f0 := g0; clear g0
    have f2 := g2; clear g2
    have f3 := g3; clear g3
    have f4 := g4; clear g4
    clear hfr hH
    refine awp_block ?_
    refine awp_each [0, 2] (l.length) (fun k fr M => fr 4 = .int .i64 (k : Nat) ∧ fr 3 = .int .i64 ((l.length + kE (l.take k) : Nat) : Int)) ⟨f4, f3⟩ ?_
    rintro k F2 M2 hk0 ⟨fx, f3⟩ agx K0 hK0
    have f0 := (agx 0 rfl).trans f0
    have f2 := (agx 2 rfl).trans f2
    have f4 := fx; clear fx
    have ag0 := agree.refl [0, 2] F2
    clear agx
    refine awp_seq ?_
    refine awp_seq_k fun K hK => ?_
    refine awp_region rfl ?_
    simp only [f0, f4, List.length_map, RR, seval]
    refine hK _ _ ?_; clear hK K
    refine awp_if _ rfl (fun hc => ?_) (fun hc => ?_)
    · have hlt0 : k < l.length := by have := of_decide_eq_true hc; omega
      clear hc
      have hg := getE (List.getElem?_eq_getElem hlt0)
      have htk : l.take (k + 1) = l.take k ++ [l[k]] := List.take_succ_eq_append_getElem hlt0
      have hsz := szE_mem (List.getElem_mem hlt0)
      have hkt := kE_take l (k + 1)
      generalize l[k] = e at hg htk hsz
      have hez := e.sz_eq
      rw [htk, kE_snoc] at hkt
      have hih := ih (szE e.kids) (by omega) e.kids (Nat.le_refl _) (by omega)
      have hw := i64_add (a := l.length + kE (l.take k)) (b := szE e.kids) (by omega)
      refine awp_skip ?_; try simp only [RR]
      refine awp_seq ?_
      refine awp_block ?_
      refine awp_region rfl ?_
      simp only [f0, f4, f3, List.length_map, hg, hw, RR, seval]
      refine awpC_pure' (hih) ?_
      simp only [f0, f4, f3, List.length_map, hg, hw, RR, seval]
      refine awp_region rfl ?_
      simp only [f4, List.length_map, hg, hw, RR, seval]
      try rw [IntWalk.i64_in _ (by omega)]
      refine hK0 _ _ hlt0 ⟨by first | rfl | (simp only [upd_app, seval]; rfl), by rw [htk, kE_snoc]; first | rfl | (simp only [upd_app, seval]; congr 1; omega)⟩ (by repeat (first | exact ag0 | refine agree.upd rfl ?_))
    · have hkn0 : k = l.length := by have := of_decide_eq_false hc; omega
      clear hc
      rw [hkn0, List.take_length, ← hz] at f3
      refine awp_exit ?_; simp only [RR, seval]
      refine awp_seq_k fun K hK => ?_
      refine awp_region rfl ?_
      simp only [f3, List.length_map, RR, seval]
      refine hK _ _ ?_; clear hK K
      refine awp_ret ?_; simp only [bodyQ, aresult, ares, f2, List.length_map, RR, seval]
      refine Gives.pure ?_
      rfl
theorem CountStmts_con (n : Nat) : ∀ l : List Sm, szS l ≤ n → n ≤ 1000000000000 → PCon env 38 [.isl 5 (l.map Sm.row)] (.int .i64 ((szS l : Nat) : Int)) := by
  induction n using Nat.strongRecOn with
  | _ n ih =>
    intro l hn hb
    have hz := kS_sz l
    refine con_of 36 [.tmp 2] Tryd.func38 rfl rfl rfl rfl ?_
    refine awp_seq_k fun K hK => ?_
    refine awp_region rfl ?_
    simp only [List.length_map, RR, seval]
    refine hK _ _ ?_; clear hK K
    refine awp_seq_k fun K hK => ?_
    refine awp_region rfl ?_
    simp only [List.length_map, RR, seval]
    refine hK _ _ ?_; clear hK K
    refine awp_seq ?_
    refine awp_seq_k fun K hK => ?_
    refine awp_region rfl ?_
    simp only [List.length_map, RR, seval]
    refine hK _ _ ?_; clear hK K
    refine awp_name fun F1 M1 hfr hH => ?_
    have g0 := hfr 0
    have g2 := hfr 2
    have g3 := hfr 3
    have g4 := hfr 4
    try simp only [List.length_map, RR, seval] at g0 g2 g3 g4
    have f0 := g0; clear g0
    have f2 := g2; clear g2
    have f3 := g3; clear g3
    have f4 := g4; clear g4
    clear hfr hH
    refine awp_block ?_
    refine awp_each [0, 2] (l.length) (fun k fr M => fr 4 = .int .i64 (k : Nat) ∧ fr 3 = .int .i64 ((l.length + kS (l.take k) : Nat) : Int)) ⟨f4, f3⟩ ?_
    rintro k F2 M2 hk0 ⟨fx, f3⟩ agx K0 hK0
    have f0 := (agx 0 rfl).trans f0
    have f2 := (agx 2 rfl).trans f2
    have f4 := fx; clear fx
    have ag0 := agree.refl [0, 2] F2
    clear agx
    refine awp_seq ?_
    refine awp_seq_k fun K hK => ?_
    refine awp_region rfl ?_
    simp only [f0, f4, List.length_map, RR, seval]
    refine hK _ _ ?_; clear hK K
    refine awp_if _ rfl (fun hc => ?_) (fun hc => ?_)
    · have hlt0 : k < l.length := by have := of_decide_eq_true hc; omega
      clear hc
      have hg := getS (List.getElem?_eq_getElem hlt0)
      have htk : l.take (k + 1) = l.take k ++ [l[k]] := List.take_succ_eq_append_getElem hlt0
      have hsz := szS_mem (List.getElem_mem hlt0)
      have hkt := kS_take l (k + 1)
      generalize l[k] = e at hg htk hsz
      have hez := e.sz_eq
      rw [htk, kS_snoc] at hkt
      have hx := CountExprs_con (szE e.es) e.es (Nat.le_refl _) (by omega)
      have ht := ih (szS e.thn) (by omega) e.thn (Nat.le_refl _) (by omega)
      have hu := ih (szS e.els) (by omega) e.els (Nat.le_refl _) (by omega)
      have hw1 := i64_add (a := l.length + kS (l.take k)) (b := szE e.es) (by omega)
      have hw2 := i64_add (a := l.length + kS (l.take k) + szE e.es) (b := szS e.thn) (by omega)
      have hw3 := i64_add (a := l.length + kS (l.take k) + szE e.es + szS e.thn) (b := szS e.els) (by omega)
      refine awp_skip ?_; try simp only [RR]
      refine awp_seq ?_
      refine awp_block ?_
      refine awp_region_draw2 (fun x => True) [(0, 3), (1, 3), (2, 3), (3, 3), (4, 3), (5, 1), (8, 3), (9, 3), (10, 3), (11, 3), (12, 0), (15, 3), (16, 3), (17, 3), (18, 3), (19, 0), (6, 1), (7, 3), (13, 1), (14, 3), (20, 1), (21, 3), (22, 3)] [] draws (by kernel_rfl) rfl rfl ?_
      simp only [emitF, markOf, EM, f0, f4, f3, List.length_map, hg, hw1, hw2, hw3, atouch, reduceCtorEq, false_implies, forall_const, implies_true, true_and, RR, seval]
      refine awpC_pure' (hx) ?_
      simp only [emitF, markOf, EM, f0, f4, f3, List.length_map, hg, hw1, hw2, hw3, atouch, reduceCtorEq, false_implies, forall_const, implies_true, true_and, RR, seval]
      refine awpC_pure' (ht) ?_
      simp only [emitF, markOf, EM, f0, f4, f3, List.length_map, hg, hw1, hw2, hw3, atouch, reduceCtorEq, false_implies, forall_const, implies_true, true_and, RR, seval]
      refine awpC_pure' (hu) ?_
      simp only [emitF, markOf, EM, f0, f4, f3, List.length_map, hg, hw1, hw2, hw3, atouch, reduceCtorEq, false_implies, forall_const, implies_true, true_and, RR, seval]
      refine awp_region rfl ?_
      simp only [f4, List.length_map, hg, hw1, hw2, hw3, atouch, reduceCtorEq, false_implies, forall_const, implies_true, true_and, RR, seval]
      try rw [IntWalk.i64_in _ (by omega)]
      refine hK0 _ _ hlt0 ⟨by first | rfl | (simp only [upd_app, seval]; rfl), by rw [htk, kS_snoc]; first | rfl | (simp only [upd_app, seval]; congr 1; omega)⟩ (by repeat (first | exact ag0 | refine agree.upd rfl ?_))
    · have hkn0 : k = l.length := by have := of_decide_eq_false hc; omega
      clear hc
      rw [hkn0, List.take_length, ← hz] at f3
      refine awp_exit ?_; simp only [RR, seval]
      refine awp_seq_k fun K hK => ?_
      refine awp_region rfl ?_
      simp only [f3, List.length_map, RR, seval]
      refine hK _ _ ?_; clear hK K
      refine awp_ret ?_; simp only [bodyQ, aresult, ares, f2, List.length_map, RR, seval]
      refine Gives.pure ?_
      rfl
theorem Size_con (p : Pg) (hv : p.vars.length ≤ 10000) (ha : p.arrs.length ≤ 10000) (hf : p.funs.length ≤ 10000) (hc : ∀ f ∈ p.funs, cntF f ≤ 10000000) : PCon env 17 [p.av] (.int .i64 ((sizP p : Nat) : Int)) := by
  have hz : sizP p = p.vars.length + p.arrs.length + p.funs.length + sumF p.funs := rfl
  generalize sizP p = res at *
  have hav : p.av = .agg p.row := rfl
  have hrow : p.row = [.isl 1 (p.vars.map strRow), .isl 2 (p.arrs.map Ar.row), .isl 5 (p.funs.map Fu.row)] := rfl
  rw [hav, hrow]
  have hw0 := i64_add (a := p.vars.length) (b := p.arrs.length) (by omega)
  have hw1 := i64_add (a := p.vars.length + p.arrs.length) (b := p.funs.length) (by omega)
  refine con_of 49 [.tmp 2] Tryd.func17 rfl rfl rfl rfl ?_
  refine awp_seq_k fun K hK => ?_
  refine awp_region rfl ?_
  simp only [List.length_map, hw0, hw1, RR, seval]
  refine awpN_intro fun b1 hn1 => ?_
  simp only [List.length_map, hw0, hw1, RR, seval]
  refine hK _ _ ?_; clear hK K
  refine awp_seq_k fun K hK => ?_
  refine awp_region rfl ?_
  simp only [List.length_map, hw0, hw1, RR, seval]
  refine hK _ _ ?_; clear hK K
  refine awp_seq ?_
  refine awp_seq_k fun K hK => ?_
  refine awp_region rfl ?_
  simp only [List.length_map, hw0, hw1, RR, seval]
  refine hK _ _ ?_; clear hK K
  refine awp_name fun F1 M1 hfr hH => ?_
  have g1 := hfr 1
  have g2 := hfr 2
  have g3 := hfr 3
  have g4 := hfr 4
  have gb1 := hH b1
  try simp only [List.length_map, hw0, hw1, RR, seval] at g1 g2 g3 g4 gb1
  have f1 := g1; clear g1
  have f2 := g2; clear g2
  have f3 := g3; clear g3
  have f4 := g4; clear g4
  have hb1 := gb1; clear gb1
  clear hfr hH
  refine awp_block ?_
  refine awp_each [1, 2] (p.funs.length) (fun k fr M => fr 4 = .int .i64 (k : Nat) ∧ M b1 = M1 b1 ∧ fr 3 = .int .i64 ((p.vars.length + p.arrs.length + p.funs.length + sumF (p.funs.take k) : Nat) : Int)) ⟨f4, rfl, f3⟩ ?_
  rintro k F2 M2 hk0 ⟨fx, gb1, f3⟩ agx K0 hK0
  have f1 := (agx 1 rfl).trans f1
  have f2 := (agx 2 rfl).trans f2
  have f4 := fx; clear fx
  have hb1 := gb1.trans hb1
  have ag0 := agree.refl [1, 2] F2
  have e0_b1 := gb1; clear gb1
  clear agx
  refine awp_seq ?_
  refine awp_seq_k fun K hK => ?_
  refine awp_region rfl ?_
  simp only [f1, f4, hb1, List.length_map, hw0, hw1, RR, seval]
  refine hK _ _ ?_; clear hK K
  refine awp_if _ rfl (fun hc => ?_) (fun hc => ?_)
  · have hlt0 : k < p.funs.length := by have := of_decide_eq_true hc; omega
    clear hc
    have hg := getF (List.getElem?_eq_getElem hlt0)
    have htk : p.funs.take (k + 1) = p.funs.take k ++ [p.funs[k]] := List.take_succ_eq_append_getElem hlt0
    have hsm := sumF_le 10000000 (p.funs.take k) (fun f hf => hc f (List.mem_of_mem_take hf))
    have hsl : (p.funs.take k).length ≤ 10000 := by rw [List.length_take]; omega
    have hcf := hc _ (List.getElem_mem hlt0)
    generalize p.funs[k] = e at hg htk hcf
    have hce : cntF e = e.params.length + e.locs.length + szS e.body := rfl
    have hbd : (p.funs.take k).length * 10000000 ≤ 10000 * 10000000 := Nat.mul_le_mul_right _ hsl
    have hx := CountStmts_con (szS e.body) e.body (Nat.le_refl _) (by omega)
    have hq1 := i64_add (a := p.vars.length + p.arrs.length + p.funs.length + sumF (p.funs.take k)) (b := e.params.length) (by omega)
    have hq2 := i64_add (a := p.vars.length + p.arrs.length + p.funs.length + sumF (p.funs.take k) + e.params.length) (b := e.locs.length) (by omega)
    have hq3 := i64_add (a := p.vars.length + p.arrs.length + p.funs.length + sumF (p.funs.take k) + e.params.length + e.locs.length) (b := szS e.body) (by omega)
    refine awp_skip ?_; try simp only [RR]
    refine awp_seq ?_
    refine awp_block ?_
    refine awp_region_draw2 (fun x => x ≠ b1) [(0, 3), (1, 3), (2, 0), (3, 3), (4, 3), (5, 3), (6, 0), (7, 3), (8, 3), (9, 3), (10, 0), (11, 3), (12, 3), (13, 3), (14, 0), (15, 3), (16, 3), (17, 3), (18, 1), (19, 3), (20, 3), (21, 3), (22, 1), (23, 1), (24, 3), (25, 3)] [] draws (by kernel_rfl) rfl rfl ?_
    simp only [emitF, markOf, EM, f1, f4, f3, hb1, List.length_map, hw0, hw1, hg, hq1, hq2, hq3, RR, seval]
    refine awpC_pure' (hx) ?_
    simp only [emitF, markOf, EM, f1, f4, f3, hb1, List.length_map, hw0, hw1, hg, hq1, hq2, hq3, RR, seval]
    refine awp_region rfl ?_
    simp only [f4, List.length_map, hw0, hw1, hg, hq1, hq2, hq3, RR, seval]
    try rw [IntWalk.i64_in _ (by omega)]
    refine hK0 _ _ hlt0 ⟨by first | rfl | (simp only [upd_app, seval]; rfl), (by first | exact e0_b1 | (simp only [upd_app, seval]; first | done | exact e0_b1)), by rw [htk, sumF_snoc]; first | rfl | (simp only [upd_app, seval]; congr 1; omega)⟩ (by repeat (first | exact ag0 | refine agree.upd rfl ?_))
  · have hkn0 : k = p.funs.length := by have := of_decide_eq_false hc; omega
    clear hc
    rw [hkn0, List.take_length, ← hz] at f3
    refine awp_exit ?_; simp only [RR, seval]
    refine awp_seq_k fun K hK => ?_
    refine awp_region rfl ?_
    simp only [f3, List.length_map, hw0, hw1, RR, seval]
    refine hK _ _ ?_; clear hK K
    refine awp_ret ?_; simp only [bodyQ, aresult, ares, f2, List.length_map, hw0, hw1, RR, seval]
    refine Gives.pure ?_
    rfl
theorem exprsSize_con (n : Nat) : ∀ l : List Ex, szE l ≤ n → n ≤ 1000000000000 → PCon env 59 [.isl 5 (l.map Ex.row)] (.int .i64 ((szE l : Nat) : Int)) := by
  induction n using Nat.strongRecOn with
  | _ n ih =>
    intro l hn hb
    have hz := kE_sz l
    refine con_of 21 [.tmp 2] Tryd.func59 rfl rfl rfl rfl ?_
    refine awp_seq_k fun K hK => ?_
    refine awp_region rfl ?_
    simp only [List.length_map, RR, seval]
    refine hK _ _ ?_; clear hK K
    refine awp_seq_k fun K hK => ?_
    refine awp_region rfl ?_
    simp only [List.length_map, RR, seval]
    refine hK _ _ ?_; clear hK K
    refine awp_seq ?_
    refine awp_seq_k fun K hK => ?_
    refine awp_region rfl ?_
    simp only [List.length_map, RR, seval]
    refine hK _ _ ?_; clear hK K
    refine awp_name fun F1 M1 hfr hH => ?_
    have g2 := hfr 2
    have g3 := hfr 3
    have g8 := hfr 8
    have g9 := hfr 9
    have g10 := hfr 10
    try simp only [List.length_map, RR, seval] at g2 g3 g8 g9 g10
    have f2 := g2; clear g2
    have f3 := g3; clear g3
    have f8 := g8; clear g8
    have f9 := g9; clear g9
    have f10 := g10; clear g10
    clear hfr hH
    refine awp_block ?_
    refine awp_each [2, 8, 9] (l.length) (fun k fr M => fr 10 = .int .i64 (k : Nat) ∧ fr 3 = .int .i64 ((l.length + kE (l.take k) : Nat) : Int)) ⟨f10, f3⟩ ?_
    rintro k F2 M2 hk0 ⟨fx, f3⟩ agx K0 hK0
    have f2 := (agx 2 rfl).trans f2
    have f8 := (agx 8 rfl).trans f8
    have f9 := (agx 9 rfl).trans f9
    have f10 := fx; clear fx
    have ag0 := agree.refl [2, 8, 9] F2
    clear agx
    refine awp_seq_k fun K hK => ?_
    refine awp_region rfl ?_
    simp only [f9, f10, List.length_map, RR, seval]
    refine hK _ _ ?_; clear hK K
    refine awp_seq ?_
    refine awp_if _ rfl (fun hc => ?_) (fun hc => ?_)
    · have hlt0 : k < l.length := by have := of_decide_eq_true hc; omega
      clear hc
      have hg := getE (List.getElem?_eq_getElem hlt0)
      have htk : l.take (k + 1) = l.take k ++ [l[k]] := List.take_succ_eq_append_getElem hlt0
      have hsz := szE_mem (List.getElem_mem hlt0)
      have hkt := kE_take l (k + 1)
      generalize l[k] = e at hg htk hsz
      have hez := e.sz_eq
      rw [htk, kE_snoc] at hkt
      have hih := ih (szE e.kids) (by omega) e.kids (Nat.le_refl _) (by omega)
      have hw := i64_add (a := l.length + kE (l.take k)) (b := szE e.kids) (by omega)
      refine awp_skip ?_; try simp only [RR]
      refine awp_seq ?_
      refine awp_block ?_
      refine awp_seq_k fun K hK => ?_
      refine awp_region rfl ?_
      simp only [f8, f10, List.length_map, hg, hw, RR, seval]
      refine awpN_intro fun b5 hn5 => ?_
      simp only [f8, f10, List.length_map, hg, hw, RR, seval]
      refine hK _ _ ?_; clear hK K
      refine awp_region rfl ?_
      simp only [f3, List.length_map, hg, hw, RR, seval]
      refine awpC_pure' (hih) ?_
      simp only [f3, List.length_map, hg, hw, RR, seval]
      refine awp_region rfl ?_
      simp only [f10, List.length_map, hg, hw, RR, seval]
      try rw [IntWalk.i64_in _ (by omega)]
      refine hK0 _ _ hlt0 ⟨by first | rfl | (simp only [upd_app, seval]; rfl), by rw [htk, kE_snoc]; first | rfl | (simp only [upd_app, seval]; congr 1; omega)⟩ (by repeat (first | exact ag0 | refine agree.upd rfl ?_))
    · have hkn0 : k = l.length := by have := of_decide_eq_false hc; omega
      clear hc
      rw [hkn0, List.take_length, ← hz] at f3
      refine awp_exit ?_; simp only [RR, seval]
      refine awp_seq_k fun K hK => ?_
      refine awp_region rfl ?_
      simp only [f3, List.length_map, RR, seval]
      refine hK _ _ ?_; clear hK K
      refine awp_ret ?_; simp only [bodyQ, aresult, ares, f2, List.length_map, RR, seval]
      refine Gives.pure ?_
      rfl
theorem stmtsSize_con (n : Nat) : ∀ l : List Sm, szS l ≤ n → n ≤ 1000000000000 → PCon env 37 [.isl 5 (l.map Sm.row)] (.int .i64 ((szS l : Nat) : Int)) := by
  induction n using Nat.strongRecOn with
  | _ n ih =>
    intro l hn hb
    have hz := kS_sz l
    refine con_of 29 [.tmp 2] Tryd.func37 rfl rfl rfl rfl ?_
    refine awp_seq_k fun K hK => ?_
    refine awp_region rfl ?_
    simp only [List.length_map, RR, seval]
    refine hK _ _ ?_; clear hK K
    refine awp_seq_k fun K hK => ?_
    refine awp_region rfl ?_
    simp only [List.length_map, RR, seval]
    refine hK _ _ ?_; clear hK K
    refine awp_seq ?_
    refine awp_seq_k fun K hK => ?_
    refine awp_region rfl ?_
    simp only [List.length_map, RR, seval]
    refine hK _ _ ?_; clear hK K
    refine awp_name fun F1 M1 hfr hH => ?_
    have g2 := hfr 2
    have g3 := hfr 3
    have g8 := hfr 8
    have g9 := hfr 9
    have g10 := hfr 10
    try simp only [List.length_map, RR, seval] at g2 g3 g8 g9 g10
    have f2 := g2; clear g2
    have f3 := g3; clear g3
    have f8 := g8; clear g8
    have f9 := g9; clear g9
    have f10 := g10; clear g10
    clear hfr hH
    refine awp_block ?_
    refine awp_each [2, 8, 9] (l.length) (fun k fr M => fr 10 = .int .i64 (k : Nat) ∧ fr 3 = .int .i64 ((l.length + kS (l.take k) : Nat) : Int)) ⟨f10, f3⟩ ?_
    rintro k F2 M2 hk0 ⟨fx, f3⟩ agx K0 hK0
    have f2 := (agx 2 rfl).trans f2
    have f8 := (agx 8 rfl).trans f8
    have f9 := (agx 9 rfl).trans f9
    have f10 := fx; clear fx
    have ag0 := agree.refl [2, 8, 9] F2
    clear agx
    refine awp_seq_k fun K hK => ?_
    refine awp_region rfl ?_
    simp only [f9, f10, List.length_map, RR, seval]
    refine hK _ _ ?_; clear hK K
    refine awp_seq ?_
    refine awp_if _ rfl (fun hc => ?_) (fun hc => ?_)
    · have hlt0 : k < l.length := by have := of_decide_eq_true hc; omega
      clear hc
      have hg := getS (List.getElem?_eq_getElem hlt0)
      have htk : l.take (k + 1) = l.take k ++ [l[k]] := List.take_succ_eq_append_getElem hlt0
      have hsz := szS_mem (List.getElem_mem hlt0)
      have hkt := kS_take l (k + 1)
      generalize l[k] = e at hg htk hsz
      have hez := e.sz_eq
      rw [htk, kS_snoc] at hkt
      have hx := exprsSize_con (szE e.es) e.es (Nat.le_refl _) (by omega)
      have ht := ih (szS e.thn) (by omega) e.thn (Nat.le_refl _) (by omega)
      have hu := ih (szS e.els) (by omega) e.els (Nat.le_refl _) (by omega)
      have hw1 := i64_add (a := szE e.es) (b := szS e.thn) (by omega)
      have hw2 := i64_add (a := szE e.es + szS e.thn) (b := szS e.els) (by omega)
      have hw3 := i64_add (a := l.length + kS (l.take k)) (b := szE e.es + szS e.thn + szS e.els) (by omega)
      refine awp_skip ?_; try simp only [RR]
      refine awp_seq ?_
      refine awp_block ?_
      refine awp_seq_k fun K hK => ?_
      refine awp_region rfl ?_
      simp only [f8, f10, List.length_map, hg, hw1, hw2, hw3, RR, seval]
      refine awpN_intro fun b5 hn5 => ?_
      simp only [f8, f10, List.length_map, hg, hw1, hw2, hw3, RR, seval]
      refine hK _ _ ?_; clear hK K
      refine awp_region_draw2 (fun x => x ≠ b5) [(0, 3), (1, 3), (2, 1), (4, 3), (5, 0), (8, 3), (9, 0), (3, 1), (6, 1), (7, 3), (10, 1), (11, 3), (12, 3), (13, 3)] [] draws (by kernel_rfl) rfl rfl ?_
      simp only [emitF, markOf, EM, f3, List.length_map, hg, hw1, hw2, hw3, RR, seval]
      refine awpC_pure' (hx) ?_
      simp only [emitF, markOf, EM, f3, List.length_map, hg, hw1, hw2, hw3, RR, seval]
      refine awpC_pure' (ht) ?_
      simp only [emitF, markOf, EM, f3, List.length_map, hg, hw1, hw2, hw3, RR, seval]
      refine awpC_pure' (hu) ?_
      simp only [emitF, markOf, EM, f3, List.length_map, hg, hw1, hw2, hw3, RR, seval]
      refine awp_region rfl ?_
      simp only [f10, List.length_map, hg, hw1, hw2, hw3, RR, seval]
      try rw [IntWalk.i64_in _ (by omega)]
      refine hK0 _ _ hlt0 ⟨by first | rfl | (simp only [upd_app, seval]; rfl), by rw [htk, kS_snoc]; first | rfl | (simp only [upd_app, seval]; congr 1; omega)⟩ (by repeat (first | exact ag0 | refine agree.upd rfl ?_))
    · have hkn0 : k = l.length := by have := of_decide_eq_false hc; omega
      clear hc
      rw [hkn0, List.take_length, ← hz] at f3
      refine awp_exit ?_; simp only [RR, seval]
      refine awp_seq_k fun K hK => ?_
      refine awp_region rfl ?_
      simp only [f3, List.length_map, RR, seval]
      refine hK _ _ ?_; clear hK K
      refine awp_ret ?_; simp only [bodyQ, aresult, ares, f2, List.length_map, RR, seval]
      refine Gives.pure ?_
      rfl
theorem pSize_con (p : Pg) (hv : p.vars.length ≤ 10000) (ha : p.arrs.length ≤ 10000) (hf : p.funs.length ≤ 10000) (hc : ∀ f ∈ p.funs, cntF f ≤ 10000000) : PCon env 16 [p.av] (.int .i64 ((sizP p : Nat) : Int)) := by
  have hz : sizP p = p.vars.length + p.arrs.length + p.funs.length + sumF p.funs := rfl
  generalize sizP p = res at *
  have hav : p.av = .agg p.row := rfl
  have hrow : p.row = [.isl 1 (p.vars.map strRow), .isl 2 (p.arrs.map Ar.row), .isl 5 (p.funs.map Fu.row)] := rfl
  rw [hav, hrow]
  have hw0 := i64_add (a := p.vars.length) (b := p.arrs.length) (by omega)
  have hw1 := i64_add (a := p.vars.length + p.arrs.length) (b := p.funs.length) (by omega)
  refine con_of 39 [.tmp 2] Tryd.func16 rfl rfl rfl rfl ?_
  refine awp_seq_k fun K hK => ?_
  refine awp_region rfl ?_
  simp only [List.length_map, hw0, hw1, RR, seval]
  refine awpN_intro fun b1 hn1 => ?_
  simp only [List.length_map, hw0, hw1, RR, seval]
  refine hK _ _ ?_; clear hK K
  refine awp_seq_k fun K hK => ?_
  refine awp_region rfl ?_
  simp only [List.length_map, hw0, hw1, RR, seval]
  refine hK _ _ ?_; clear hK K
  refine awp_seq ?_
  refine awp_seq_k fun K hK => ?_
  refine awp_region rfl ?_
  simp only [List.length_map, hw0, hw1, RR, seval]
  refine hK _ _ ?_; clear hK K
  refine awp_name fun F1 M1 hfr hH => ?_
  have g2 := hfr 2
  have g3 := hfr 3
  have g18 := hfr 18
  have g19 := hfr 19
  have g20 := hfr 20
  have gb1 := hH b1
  try simp only [List.length_map, hw0, hw1, RR, seval] at g2 g3 g18 g19 g20 gb1
  have f2 := g2; clear g2
  have f3 := g3; clear g3
  have f18 := g18; clear g18
  have f19 := g19; clear g19
  have f20 := g20; clear g20
  have hb1 := gb1; clear gb1
  clear hfr hH
  refine awp_block ?_
  refine awp_each [2, 18, 19] (p.funs.length) (fun k fr M => fr 20 = .int .i64 (k : Nat) ∧ M b1 = M1 b1 ∧ fr 3 = .int .i64 ((p.vars.length + p.arrs.length + p.funs.length + sumF (p.funs.take k) : Nat) : Int)) ⟨f20, rfl, f3⟩ ?_
  rintro k F2 M2 hk0 ⟨fx, gb1, f3⟩ agx K0 hK0
  have f2 := (agx 2 rfl).trans f2
  have f18 := (agx 18 rfl).trans f18
  have f19 := (agx 19 rfl).trans f19
  have f20 := fx; clear fx
  have hb1 := gb1.trans hb1
  have ag0 := agree.refl [2, 18, 19] F2
  have e0_b1 := gb1; clear gb1
  clear agx
  refine awp_seq_k fun K hK => ?_
  refine awp_region rfl ?_
  simp only [f19, f20, List.length_map, hw0, hw1, RR, seval]
  refine hK _ _ ?_; clear hK K
  refine awp_seq ?_
  refine awp_if _ rfl (fun hc => ?_) (fun hc => ?_)
  · have hlt0 : k < p.funs.length := by have := of_decide_eq_true hc; omega
    clear hc
    have hg := getF (List.getElem?_eq_getElem hlt0)
    have htk : p.funs.take (k + 1) = p.funs.take k ++ [p.funs[k]] := List.take_succ_eq_append_getElem hlt0
    have hsm := sumF_le 10000000 (p.funs.take k) (fun f hf => hc f (List.mem_of_mem_take hf))
    have hsl : (p.funs.take k).length ≤ 10000 := by rw [List.length_take]; omega
    have hcf := hc _ (List.getElem_mem hlt0)
    generalize p.funs[k] = e at hg htk hcf
    have hce : cntF e = e.params.length + e.locs.length + szS e.body := rfl
    have hbd : (p.funs.take k).length * 10000000 ≤ 10000 * 10000000 := Nat.mul_le_mul_right _ hsl
    have hx := stmtsSize_con (szS e.body) e.body (Nat.le_refl _) (by omega)
    have hq1 := i64_add (a := e.params.length) (b := e.locs.length) (by omega)
    have hq2 := i64_add (a := e.params.length + e.locs.length) (b := szS e.body) (by omega)
    have hq3 := i64_add (a := p.vars.length + p.arrs.length + p.funs.length + sumF (p.funs.take k)) (b := e.params.length + e.locs.length + szS e.body) (by omega)
    refine awp_skip ?_; try simp only [RR]
    refine awp_seq ?_
    refine awp_block ?_
    refine awp_seq_k fun K hK => ?_
    refine awp_region rfl ?_
    simp only [f18, f20, hb1, List.length_map, hw0, hw1, hg, hq1, hq2, hq3, RR, seval]
    refine awpN_intro fun b5 hn5 => ?_
    have nb5_b1 : b5 ≠ b1 := fun e => by rw [e] at hn5; simp only [hb1, RR, seval, reduceCtorEq] at hn5
    have nb1_b5 : b1 ≠ b5 := fun e => nb5_b1 e.symm
    simp only [f18, f20, hb1, nb5_b1, nb1_b5, List.length_map, hw0, hw1, hg, hq1, hq2, hq3, RR, seval]
    refine hK _ _ ?_; clear hK K
    refine awp_region_draw2 (fun x => x ≠ b1 ∧ x ≠ b5) [(0, 3), (1, 3), (2, 0), (3, 3), (4, 3), (5, 0), (6, 3), (7, 3), (8, 3), (9, 1), (10, 1), (11, 3), (12, 3), (13, 3)] [] draws (by kernel_rfl) rfl rfl ?_
    simp only [emitF, markOf, EM, f3, hb1, nb5_b1, nb1_b5, List.length_map, hw0, hw1, hg, hq1, hq2, hq3, RR, seval]
    refine awpC_pure' (hx) ?_
    simp only [emitF, markOf, EM, f3, hb1, nb5_b1, nb1_b5, List.length_map, hw0, hw1, hg, hq1, hq2, hq3, RR, seval]
    refine awp_region rfl ?_
    simp only [f20, List.length_map, hw0, hw1, hg, hq1, hq2, hq3, RR, seval]
    try rw [IntWalk.i64_in _ (by omega)]
    refine hK0 _ _ hlt0 ⟨by first | rfl | (simp only [upd_app, seval]; rfl), (by first | exact e0_b1 | (simp only [nb5_b1, nb1_b5, upd_app, seval]; first | done | exact e0_b1)), by rw [htk, sumF_snoc]; first | rfl | (simp only [upd_app, seval]; congr 1; omega)⟩ (by repeat (first | exact ag0 | refine agree.upd rfl ?_))
  · have hkn0 : k = p.funs.length := by have := of_decide_eq_false hc; omega
    clear hc
    rw [hkn0, List.take_length, ← hz] at f3
    refine awp_exit ?_; simp only [RR, seval]
    refine awp_seq_k fun K hK => ?_
    refine awp_region rfl ?_
    simp only [f3, List.length_map, hw0, hw1, RR, seval]
    refine hK _ _ ?_; clear hK K
    refine awp_ret ?_; simp only [bodyQ, aresult, ares, f2, List.length_map, hw0, hw1, RR, seval]
    refine Gives.pure ?_
    rfl
end Go.Proofs.YtgcncdjnipfolaaDoor
