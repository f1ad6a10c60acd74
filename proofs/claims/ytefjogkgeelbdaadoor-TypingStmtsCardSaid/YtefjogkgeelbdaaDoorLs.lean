/- Chapter 17: a program with a statement more at its last function's end. Chapter 17: what a statement more at a function's end does to the check, in plain Lean. Chapter 17: the contract of more, on trees. Chapter 17: the contract of TypingStmts. -/
import Derived.Test.YtefjogkgeelbdaaDoorLn
import Derived.Test.YtefjogkgeelbdaaDoorSf
import Derived.Test.YtefjogkgeelbdaaDoorLk
set_option linter.unusedSimpArgs false
set_option linter.unusedVariables false
set_option maxRecDepth 10000
namespace Go.Al
theorem len_szS' : ∀ l : List Sm, l.length ≤ szS l
  | [] => by simp [szS]
  | e :: l => by have := len_szS' l; have := e.sz_eq; simp only [List.length_cons, szS]; omega
end Go.Al
namespace Go.Proofs.YtefjogkgeelbdaaDoor
open Go.Al
theorem more_raw (p : Pg) (hv : p.few) (h1 : 1 ≤ p.funs.length) (g : Fu) (hg0 : p.funs[p.funs.length - 1]? = some g) (k : Int) (s : Str) (v1 v2 v3 : AV) (o1 : one v1 = true) (o2 : one v2 = true) (o3 : one v3 = true) : PCon env 22 [p.av, .agg [.int .i64 k, .str s, v1, v2, v3]]
    (.agg [.isl 1 (p.vars.map strRow), .isl 2 (p.arrs.map Ar.row), .isl 5 ((p.funs.map Fu.row).set (p.funs.length - 1) [.str g.name, .isl 1 (g.params.map strRow), .isl 1 (g.locs.map strRow), .bool g.word, .isl 5 (g.body.map Sm.row ++ [[.int .i64 k, .str s, v1, v2, v3]])])]) := by
  have hav : p.av = .agg p.row := rfl
  have hrow : p.row = [.isl 1 (p.vars.map strRow), .isl 2 (p.arrs.map Ar.row), .isl 5 (p.funs.map Fu.row)] := rfl
  rw [hav, hrow]
  have hg := getF hg0
  have hgm := List.mem_of_getElem? hg0
  have hgs := hv.fs _ hgm
  have hgl := len_szS' g.body
  have hpl := hv.f
  have e1 : IntKind.wrap .i64 ((p.funs.length : Int) - 1) = ((p.funs.length - 1 : Nat) : Int) := by rw [IntWalk.i64_in _ (by omega)]; omega
  have z1 : ((p.funs.length - 1 : Nat) : Int) < (p.funs.length : Int) := by omega
  generalize p.funs.length - 1 = m at *
  have q1 := one_fus p.funs
  have q2 := one_sms g.body
  refine con_of 34 [.cell 4 26] Tryd.func22 rfl rfl rfl rfl ?_
  refine awp_seq_k fun K hK => ?_
  refine awp_region rfl ?_
  simp only [List.length_map, e1, z1, hg, o1, o2, o3, q1, q2, RR, seval]
  refine awpN_intro fun b2 hn2 => ?_
  simp only [List.length_map, e1, z1, hg, o1, o2, o3, q1, q2, RR, seval]
  refine awpN_intro fun b3 hn3 => ?_
  have nb3_b2 : b3 ≠ b2 := fun e => by rw [e] at hn3; simp only [List.length_map, e1, z1, hg, o1, o2, o3, q1, q2, RR, seval, reduceCtorEq] at hn3
  have nb2_b3 : b2 ≠ b3 := fun e => nb3_b2 e.symm
  simp only [nb3_b2, nb2_b3, List.length_map, e1, z1, hg, o1, o2, o3, q1, q2, RR, seval]
  refine awpN_intro fun b4 hn4 => ?_
  have nb4_b2 : b4 ≠ b2 := fun e => by rw [e] at hn4; simp only [nb3_b2, nb2_b3, List.length_map, e1, z1, hg, o1, o2, o3, q1, q2, RR, seval, reduceCtorEq] at hn4
  have nb2_b4 : b2 ≠ b4 := fun e => nb4_b2 e.symm
  have nb4_b3 : b4 ≠ b3 := fun e => by rw [e] at hn4; simp only [nb3_b2, nb2_b3, List.length_map, e1, z1, hg, o1, o2, o3, q1, q2, RR, seval, reduceCtorEq] at hn4
  have nb3_b4 : b3 ≠ b4 := fun e => nb4_b3 e.symm
  simp only [nb3_b2, nb2_b3, nb4_b2, nb2_b4, nb4_b3, nb3_b4, List.length_map, e1, z1, hg, o1, o2, o3, q1, q2, RR, seval]
  refine hK _ _ ?_; clear hK K
  refine awp_seq_k fun K hK => ?_
  refine awp_region rfl ?_
  simp only [nb3_b2, nb2_b3, nb4_b2, nb2_b4, nb4_b3, nb3_b4, List.length_map, e1, z1, hg, o1, o2, o3, q1, q2, RR, seval]
  refine awpN_intro fun b5 hn5 => ?_
  have nb5_b2 : b5 ≠ b2 := fun e => by rw [e] at hn5; simp only [nb3_b2, nb2_b3, nb4_b2, nb2_b4, nb4_b3, nb3_b4, List.length_map, e1, z1, hg, o1, o2, o3, q1, q2, RR, seval, reduceCtorEq] at hn5
  have nb2_b5 : b2 ≠ b5 := fun e => nb5_b2 e.symm
  have nb5_b3 : b5 ≠ b3 := fun e => by rw [e] at hn5; simp only [nb3_b2, nb2_b3, nb4_b2, nb2_b4, nb4_b3, nb3_b4, List.length_map, e1, z1, hg, o1, o2, o3, q1, q2, RR, seval, reduceCtorEq] at hn5
  have nb3_b5 : b3 ≠ b5 := fun e => nb5_b3 e.symm
  have nb5_b4 : b5 ≠ b4 := fun e => by rw [e] at hn5; simp only [nb3_b2, nb2_b3, nb4_b2, nb2_b4, nb4_b3, nb3_b4, List.length_map, e1, z1, hg, o1, o2, o3, q1, q2, RR, seval, reduceCtorEq] at hn5
  have nb4_b5 : b4 ≠ b5 := fun e => nb5_b4 e.symm
  simp only [nb3_b2, nb2_b3, nb4_b2, nb2_b4, nb4_b3, nb3_b4, nb5_b2, nb2_b5, nb5_b3, nb3_b5, nb5_b4, nb4_b5, List.length_map, e1, z1, hg, o1, o2, o3, q1, q2, RR, seval]
  refine hK _ _ ?_; clear hK K
  refine awp_seq_k fun K hK => ?_
  refine awp_region rfl ?_
  simp only [nb3_b2, nb2_b3, nb4_b2, nb2_b4, nb4_b3, nb3_b4, nb5_b2, nb2_b5, nb5_b3, nb3_b5, nb5_b4, nb4_b5, List.length_map, e1, z1, hg, o1, o2, o3, q1, q2, RR, seval]
  refine awpB_own fun b8 hn8 => ?_
  have nb8_b2 : b8 ≠ b2 := fun e => by rw [e] at hn8; simp only [nb3_b2, nb2_b3, nb4_b2, nb2_b4, nb4_b3, nb3_b4, nb5_b2, nb2_b5, nb5_b3, nb3_b5, nb5_b4, nb4_b5, List.length_map, e1, z1, hg, o1, o2, o3, q1, q2, RR, seval, reduceCtorEq] at hn8
  have nb2_b8 : b2 ≠ b8 := fun e => nb8_b2 e.symm
  have nb8_b3 : b8 ≠ b3 := fun e => by rw [e] at hn8; simp only [nb3_b2, nb2_b3, nb4_b2, nb2_b4, nb4_b3, nb3_b4, nb5_b2, nb2_b5, nb5_b3, nb3_b5, nb5_b4, nb4_b5, List.length_map, e1, z1, hg, o1, o2, o3, q1, q2, RR, seval, reduceCtorEq] at hn8
  have nb3_b8 : b3 ≠ b8 := fun e => nb8_b3 e.symm
  have nb8_b4 : b8 ≠ b4 := fun e => by rw [e] at hn8; simp only [nb3_b2, nb2_b3, nb4_b2, nb2_b4, nb4_b3, nb3_b4, nb5_b2, nb2_b5, nb5_b3, nb3_b5, nb5_b4, nb4_b5, List.length_map, e1, z1, hg, o1, o2, o3, q1, q2, RR, seval, reduceCtorEq] at hn8
  have nb4_b8 : b4 ≠ b8 := fun e => nb8_b4 e.symm
  have nb8_b5 : b8 ≠ b5 := fun e => by rw [e] at hn8; simp only [nb3_b2, nb2_b3, nb4_b2, nb2_b4, nb4_b3, nb3_b4, nb5_b2, nb2_b5, nb5_b3, nb3_b5, nb5_b4, nb4_b5, List.length_map, e1, z1, hg, o1, o2, o3, q1, q2, RR, seval, reduceCtorEq] at hn8
  have nb5_b8 : b5 ≠ b8 := fun e => nb8_b5 e.symm
  simp only [nb3_b2, nb2_b3, nb4_b2, nb2_b4, nb4_b3, nb3_b4, nb5_b2, nb2_b5, nb5_b3, nb3_b5, nb5_b4, nb4_b5, nb8_b2, nb2_b8, nb8_b3, nb3_b8, nb8_b4, nb4_b8, nb8_b5, nb5_b8, List.length_map, e1, z1, hg, o1, o2, o3, q1, q2, RR, seval]
  refine awpA_osl (b := b8) (upd_same _ _ _) (by simp only [List.length_map, List.length_append, List.length_cons, List.length_nil, Nat.zero_add]) (by simp only [List.length_map, List.length_append, List.length_cons, List.length_nil]; omega) (by repeat (first | trivial | assumption | refine ⟨?_, ?_⟩)) fun b11 hn11 => ?_
  have nb11_b2 : b11 ≠ b2 := by rcases hn11 with e | e; rw [e]; exact nb8_b2; intro e2; rw [e2] at e; simp only [nb3_b2, nb2_b3, nb4_b2, nb2_b4, nb4_b3, nb3_b4, nb5_b2, nb2_b5, nb5_b3, nb3_b5, nb5_b4, nb4_b5, nb8_b2, nb2_b8, nb8_b3, nb3_b8, nb8_b4, nb4_b8, nb8_b5, nb5_b8, List.length_map, e1, z1, hg, o1, o2, o3, q1, q2, RR, seval, reduceCtorEq] at e
  have nb2_b11 : b2 ≠ b11 := fun e => nb11_b2 e.symm
  have nb11_b3 : b11 ≠ b3 := by rcases hn11 with e | e; rw [e]; exact nb8_b3; intro e2; rw [e2] at e; simp only [nb3_b2, nb2_b3, nb4_b2, nb2_b4, nb4_b3, nb3_b4, nb5_b2, nb2_b5, nb5_b3, nb3_b5, nb5_b4, nb4_b5, nb8_b2, nb2_b8, nb8_b3, nb3_b8, nb8_b4, nb4_b8, nb8_b5, nb5_b8, List.length_map, e1, z1, hg, o1, o2, o3, q1, q2, RR, seval, reduceCtorEq] at e
  have nb3_b11 : b3 ≠ b11 := fun e => nb11_b3 e.symm
  have nb11_b4 : b11 ≠ b4 := by rcases hn11 with e | e; rw [e]; exact nb8_b4; intro e2; rw [e2] at e; simp only [nb3_b2, nb2_b3, nb4_b2, nb2_b4, nb4_b3, nb3_b4, nb5_b2, nb2_b5, nb5_b3, nb3_b5, nb5_b4, nb4_b5, nb8_b2, nb2_b8, nb8_b3, nb3_b8, nb8_b4, nb4_b8, nb8_b5, nb5_b8, List.length_map, e1, z1, hg, o1, o2, o3, q1, q2, RR, seval, reduceCtorEq] at e
  have nb4_b11 : b4 ≠ b11 := fun e => nb11_b4 e.symm
  have nb11_b5 : b11 ≠ b5 := by rcases hn11 with e | e; rw [e]; exact nb8_b5; intro e2; rw [e2] at e; simp only [nb3_b2, nb2_b3, nb4_b2, nb2_b4, nb4_b3, nb3_b4, nb5_b2, nb2_b5, nb5_b3, nb3_b5, nb5_b4, nb4_b5, nb8_b2, nb2_b8, nb8_b3, nb3_b8, nb8_b4, nb4_b8, nb8_b5, nb5_b8, List.length_map, e1, z1, hg, o1, o2, o3, q1, q2, RR, seval, reduceCtorEq] at e
  have nb5_b11 : b5 ≠ b11 := fun e => nb11_b5 e.symm
  simp only [List.length_append, nb3_b2, nb2_b3, nb4_b2, nb2_b4, nb4_b3, nb3_b4, nb5_b2, nb2_b5, nb5_b3, nb3_b5, nb5_b4, nb4_b5, nb8_b2, nb2_b8, nb8_b3, nb3_b8, nb8_b4, nb4_b8, nb8_b5, nb5_b8, nb11_b2, nb2_b11, nb11_b3, nb3_b11, nb11_b4, nb4_b11, nb11_b5, nb5_b11, List.length_map, e1, z1, hg, o1, o2, o3, q1, q2, RR, seval]
  refine hK _ _ ?_; clear hK K
  refine awp_seq_k fun K hK => ?_
  refine awp_region rfl ?_
  simp only [nb3_b2, nb2_b3, nb4_b2, nb2_b4, nb4_b3, nb3_b4, nb5_b2, nb2_b5, nb5_b3, nb3_b5, nb5_b4, nb4_b5, nb8_b2, nb2_b8, nb8_b3, nb3_b8, nb8_b4, nb4_b8, nb8_b5, nb5_b8, nb11_b2, nb2_b11, nb11_b3, nb3_b11, nb11_b4, nb4_b11, nb11_b5, nb5_b11, List.length_map, e1, z1, hg, o1, o2, o3, q1, q2, RR, seval]
  refine hK _ _ ?_; clear hK K
  refine awp_seq_k fun K hK => ?_
  refine awp_region_draw2 (fun x => x ≠ b2 ∧ x ≠ b3 ∧ x ≠ b4 ∧ x ≠ b5 ∧ x ≠ b11) [(0, 3), (1, 0), (2, 3), (4, 3), (5, 0), (6, 3), (7, 3), (8, 3), (9, 0), (11, 0), (12, 2), (3, 1), (10, 1), (13, 1), (14, 3), (15, 3)] [(16, 1)] draws (by kernel_rfl) rfl rfl ?_
  simp only [emitF, markOf, touch_mp, touch_imp, touch_nmp, ne_eq, not_true_eq_false, and_false, false_and, not_false_eq_true, nb3_b2, nb2_b3, nb4_b2, nb2_b4, nb4_b3, nb3_b4, nb5_b2, nb2_b5, nb5_b3, nb3_b5, nb5_b4, nb4_b5, nb8_b2, nb2_b8, nb8_b3, nb3_b8, nb8_b4, nb4_b8, nb8_b5, nb5_b8, nb11_b2, nb2_b11, nb11_b3, nb3_b11, nb11_b4, nb4_b11, nb11_b5, nb5_b11, List.length_map, e1, z1, hg, o1, o2, o3, q1, q2, RR, seval]
  refine awpB_own fun b20 hn20 => ?_
  have nb20_b2 : b20 ≠ b2 := fun e => by rw [e] at hn20; simp only [nb3_b2, nb2_b3, nb4_b2, nb2_b4, nb4_b3, nb3_b4, nb5_b2, nb2_b5, nb5_b3, nb3_b5, nb5_b4, nb4_b5, nb8_b2, nb2_b8, nb8_b3, nb3_b8, nb8_b4, nb4_b8, nb8_b5, nb5_b8, nb11_b2, nb2_b11, nb11_b3, nb3_b11, nb11_b4, nb4_b11, nb11_b5, nb5_b11, List.length_map, e1, z1, hg, o1, o2, o3, q1, q2, RR, seval, reduceCtorEq] at hn20
  have nb2_b20 : b2 ≠ b20 := fun e => nb20_b2 e.symm
  have nb20_b3 : b20 ≠ b3 := fun e => by rw [e] at hn20; simp only [nb3_b2, nb2_b3, nb4_b2, nb2_b4, nb4_b3, nb3_b4, nb5_b2, nb2_b5, nb5_b3, nb3_b5, nb5_b4, nb4_b5, nb8_b2, nb2_b8, nb8_b3, nb3_b8, nb8_b4, nb4_b8, nb8_b5, nb5_b8, nb11_b2, nb2_b11, nb11_b3, nb3_b11, nb11_b4, nb4_b11, nb11_b5, nb5_b11, List.length_map, e1, z1, hg, o1, o2, o3, q1, q2, RR, seval, reduceCtorEq] at hn20
  have nb3_b20 : b3 ≠ b20 := fun e => nb20_b3 e.symm
  have nb20_b4 : b20 ≠ b4 := fun e => by rw [e] at hn20; simp only [nb3_b2, nb2_b3, nb4_b2, nb2_b4, nb4_b3, nb3_b4, nb5_b2, nb2_b5, nb5_b3, nb3_b5, nb5_b4, nb4_b5, nb8_b2, nb2_b8, nb8_b3, nb3_b8, nb8_b4, nb4_b8, nb8_b5, nb5_b8, nb11_b2, nb2_b11, nb11_b3, nb3_b11, nb11_b4, nb4_b11, nb11_b5, nb5_b11, List.length_map, e1, z1, hg, o1, o2, o3, q1, q2, RR, seval, reduceCtorEq] at hn20
  have nb4_b20 : b4 ≠ b20 := fun e => nb20_b4 e.symm
  have nb20_b5 : b20 ≠ b5 := fun e => by rw [e] at hn20; simp only [nb3_b2, nb2_b3, nb4_b2, nb2_b4, nb4_b3, nb3_b4, nb5_b2, nb2_b5, nb5_b3, nb3_b5, nb5_b4, nb4_b5, nb8_b2, nb2_b8, nb8_b3, nb3_b8, nb8_b4, nb4_b8, nb8_b5, nb5_b8, nb11_b2, nb2_b11, nb11_b3, nb3_b11, nb11_b4, nb4_b11, nb11_b5, nb5_b11, List.length_map, e1, z1, hg, o1, o2, o3, q1, q2, RR, seval, reduceCtorEq] at hn20
  have nb5_b20 : b5 ≠ b20 := fun e => nb20_b5 e.symm
  have nb20_b11 : b20 ≠ b11 := fun e => by rw [e] at hn20; simp only [nb3_b2, nb2_b3, nb4_b2, nb2_b4, nb4_b3, nb3_b4, nb5_b2, nb2_b5, nb5_b3, nb3_b5, nb5_b4, nb4_b5, nb8_b2, nb2_b8, nb8_b3, nb3_b8, nb8_b4, nb4_b8, nb8_b5, nb5_b8, nb11_b2, nb2_b11, nb11_b3, nb3_b11, nb11_b4, nb4_b11, nb11_b5, nb5_b11, List.length_map, e1, z1, hg, o1, o2, o3, q1, q2, RR, seval, reduceCtorEq] at hn20
  have nb11_b20 : b11 ≠ b20 := fun e => nb20_b11 e.symm
  simp only [emitF, markOf, touch_mp, touch_imp, touch_nmp, ne_eq, not_true_eq_false, and_false, false_and, not_false_eq_true, nb3_b2, nb2_b3, nb4_b2, nb2_b4, nb4_b3, nb3_b4, nb5_b2, nb2_b5, nb5_b3, nb3_b5, nb5_b4, nb4_b5, nb8_b2, nb2_b8, nb8_b3, nb3_b8, nb8_b4, nb4_b8, nb8_b5, nb5_b8, nb11_b2, nb2_b11, nb11_b3, nb3_b11, nb11_b4, nb4_b11, nb11_b5, nb5_b11, nb20_b2, nb2_b20, nb20_b3, nb3_b20, nb20_b4, nb4_b20, nb20_b5, nb5_b20, nb20_b11, nb11_b20, List.length_map, e1, z1, hg, o1, o2, o3, q1, q2, RR, seval]
  refine awpA_osl (b := b20) (upd_same _ _ _) (by simp only [List.length_map, List.length_append, List.length_cons, List.length_nil, Nat.zero_add]) (by simp only [List.length_map, List.length_append, List.length_cons, List.length_nil]; omega) (by repeat (first | trivial | assumption | refine ⟨?_, ?_⟩)) fun b27 hn27 => ?_
  have nb27_b2 : b27 ≠ b2 := by rcases hn27 with e | e; rw [e]; exact nb20_b2; intro e2; rw [e2] at e; simp only [nb3_b2, nb2_b3, nb4_b2, nb2_b4, nb4_b3, nb3_b4, nb5_b2, nb2_b5, nb5_b3, nb3_b5, nb5_b4, nb4_b5, nb8_b2, nb2_b8, nb8_b3, nb3_b8, nb8_b4, nb4_b8, nb8_b5, nb5_b8, nb11_b2, nb2_b11, nb11_b3, nb3_b11, nb11_b4, nb4_b11, nb11_b5, nb5_b11, nb20_b2, nb2_b20, nb20_b3, nb3_b20, nb20_b4, nb4_b20, nb20_b5, nb5_b20, nb20_b11, nb11_b20, List.length_map, e1, z1, hg, o1, o2, o3, q1, q2, RR, seval, reduceCtorEq] at e
  have nb2_b27 : b2 ≠ b27 := fun e => nb27_b2 e.symm
  have nb27_b3 : b27 ≠ b3 := by rcases hn27 with e | e; rw [e]; exact nb20_b3; intro e2; rw [e2] at e; simp only [nb3_b2, nb2_b3, nb4_b2, nb2_b4, nb4_b3, nb3_b4, nb5_b2, nb2_b5, nb5_b3, nb3_b5, nb5_b4, nb4_b5, nb8_b2, nb2_b8, nb8_b3, nb3_b8, nb8_b4, nb4_b8, nb8_b5, nb5_b8, nb11_b2, nb2_b11, nb11_b3, nb3_b11, nb11_b4, nb4_b11, nb11_b5, nb5_b11, nb20_b2, nb2_b20, nb20_b3, nb3_b20, nb20_b4, nb4_b20, nb20_b5, nb5_b20, nb20_b11, nb11_b20, List.length_map, e1, z1, hg, o1, o2, o3, q1, q2, RR, seval, reduceCtorEq] at e
  have nb3_b27 : b3 ≠ b27 := fun e => nb27_b3 e.symm
  have nb27_b4 : b27 ≠ b4 := by rcases hn27 with e | e; rw [e]; exact nb20_b4; intro e2; rw [e2] at e; simp only [nb3_b2, nb2_b3, nb4_b2, nb2_b4, nb4_b3, nb3_b4, nb5_b2, nb2_b5, nb5_b3, nb3_b5, nb5_b4, nb4_b5, nb8_b2, nb2_b8, nb8_b3, nb3_b8, nb8_b4, nb4_b8, nb8_b5, nb5_b8, nb11_b2, nb2_b11, nb11_b3, nb3_b11, nb11_b4, nb4_b11, nb11_b5, nb5_b11, nb20_b2, nb2_b20, nb20_b3, nb3_b20, nb20_b4, nb4_b20, nb20_b5, nb5_b20, nb20_b11, nb11_b20, List.length_map, e1, z1, hg, o1, o2, o3, q1, q2, RR, seval, reduceCtorEq] at e
  have nb4_b27 : b4 ≠ b27 := fun e => nb27_b4 e.symm
  have nb27_b5 : b27 ≠ b5 := by rcases hn27 with e | e; rw [e]; exact nb20_b5; intro e2; rw [e2] at e; simp only [nb3_b2, nb2_b3, nb4_b2, nb2_b4, nb4_b3, nb3_b4, nb5_b2, nb2_b5, nb5_b3, nb3_b5, nb5_b4, nb4_b5, nb8_b2, nb2_b8, nb8_b3, nb3_b8, nb8_b4, nb4_b8, nb8_b5, nb5_b8, nb11_b2, nb2_b11, nb11_b3, nb3_b11, nb11_b4, nb4_b11, nb11_b5, nb5_b11, nb20_b2, nb2_b20, nb20_b3, nb3_b20, nb20_b4, nb4_b20, nb20_b5, nb5_b20, nb20_b11, nb11_b20, List.length_map, e1, z1, hg, o1, o2, o3, q1, q2, RR, seval, reduceCtorEq] at e
  have nb5_b27 : b5 ≠ b27 := fun e => nb27_b5 e.symm
  have nb27_b11 : b27 ≠ b11 := by rcases hn27 with e | e; rw [e]; exact nb20_b11; intro e2; rw [e2] at e; simp only [nb3_b2, nb2_b3, nb4_b2, nb2_b4, nb4_b3, nb3_b4, nb5_b2, nb2_b5, nb5_b3, nb3_b5, nb5_b4, nb4_b5, nb8_b2, nb2_b8, nb8_b3, nb3_b8, nb8_b4, nb4_b8, nb8_b5, nb5_b8, nb11_b2, nb2_b11, nb11_b3, nb3_b11, nb11_b4, nb4_b11, nb11_b5, nb5_b11, nb20_b2, nb2_b20, nb20_b3, nb3_b20, nb20_b4, nb4_b20, nb20_b5, nb5_b20, nb20_b11, nb11_b20, List.length_map, e1, z1, hg, o1, o2, o3, q1, q2, RR, seval, reduceCtorEq] at e
  have nb11_b27 : b11 ≠ b27 := fun e => nb27_b11 e.symm
  simp only [emitF, markOf, touch_mp, touch_imp, touch_nmp, ne_eq, not_true_eq_false, and_false, false_and, not_false_eq_true, List.length_append, nb3_b2, nb2_b3, nb4_b2, nb2_b4, nb4_b3, nb3_b4, nb5_b2, nb2_b5, nb5_b3, nb3_b5, nb5_b4, nb4_b5, nb8_b2, nb2_b8, nb8_b3, nb3_b8, nb8_b4, nb4_b8, nb8_b5, nb5_b8, nb11_b2, nb2_b11, nb11_b3, nb3_b11, nb11_b4, nb4_b11, nb11_b5, nb5_b11, nb20_b2, nb2_b20, nb20_b3, nb3_b20, nb20_b4, nb4_b20, nb20_b5, nb5_b20, nb20_b11, nb11_b20, nb27_b2, nb2_b27, nb27_b3, nb3_b27, nb27_b4, nb4_b27, nb27_b5, nb5_b27, nb27_b11, nb11_b27, List.length_map, e1, z1, hg, o1, o2, o3, q1, q2, RR, seval]
  refine awpA_osl (b := b27) (upd_same _ _ _) (by simp only [List.length_map, List.length_append, List.length_cons, List.length_nil, Nat.zero_add]) (by simp only [List.length_map, List.length_append, List.length_cons, List.length_nil]; omega) (by repeat (first | trivial | assumption | refine ⟨?_, ?_⟩)) fun b30 hn30 => ?_
  have nb30_b2 : b30 ≠ b2 := by rcases hn30 with e | e; rw [e]; exact nb27_b2; intro e2; rw [e2] at e; simp only [nb3_b2, nb2_b3, nb4_b2, nb2_b4, nb4_b3, nb3_b4, nb5_b2, nb2_b5, nb5_b3, nb3_b5, nb5_b4, nb4_b5, nb8_b2, nb2_b8, nb8_b3, nb3_b8, nb8_b4, nb4_b8, nb8_b5, nb5_b8, nb11_b2, nb2_b11, nb11_b3, nb3_b11, nb11_b4, nb4_b11, nb11_b5, nb5_b11, nb20_b2, nb2_b20, nb20_b3, nb3_b20, nb20_b4, nb4_b20, nb20_b5, nb5_b20, nb20_b11, nb11_b20, nb27_b2, nb2_b27, nb27_b3, nb3_b27, nb27_b4, nb4_b27, nb27_b5, nb5_b27, nb27_b11, nb11_b27, List.length_map, e1, z1, hg, o1, o2, o3, q1, q2, RR, seval, reduceCtorEq] at e
  have nb2_b30 : b2 ≠ b30 := fun e => nb30_b2 e.symm
  have nb30_b3 : b30 ≠ b3 := by rcases hn30 with e | e; rw [e]; exact nb27_b3; intro e2; rw [e2] at e; simp only [nb3_b2, nb2_b3, nb4_b2, nb2_b4, nb4_b3, nb3_b4, nb5_b2, nb2_b5, nb5_b3, nb3_b5, nb5_b4, nb4_b5, nb8_b2, nb2_b8, nb8_b3, nb3_b8, nb8_b4, nb4_b8, nb8_b5, nb5_b8, nb11_b2, nb2_b11, nb11_b3, nb3_b11, nb11_b4, nb4_b11, nb11_b5, nb5_b11, nb20_b2, nb2_b20, nb20_b3, nb3_b20, nb20_b4, nb4_b20, nb20_b5, nb5_b20, nb20_b11, nb11_b20, nb27_b2, nb2_b27, nb27_b3, nb3_b27, nb27_b4, nb4_b27, nb27_b5, nb5_b27, nb27_b11, nb11_b27, List.length_map, e1, z1, hg, o1, o2, o3, q1, q2, RR, seval, reduceCtorEq] at e
  have nb3_b30 : b3 ≠ b30 := fun e => nb30_b3 e.symm
  have nb30_b4 : b30 ≠ b4 := by rcases hn30 with e | e; rw [e]; exact nb27_b4; intro e2; rw [e2] at e; simp only [nb3_b2, nb2_b3, nb4_b2, nb2_b4, nb4_b3, nb3_b4, nb5_b2, nb2_b5, nb5_b3, nb3_b5, nb5_b4, nb4_b5, nb8_b2, nb2_b8, nb8_b3, nb3_b8, nb8_b4, nb4_b8, nb8_b5, nb5_b8, nb11_b2, nb2_b11, nb11_b3, nb3_b11, nb11_b4, nb4_b11, nb11_b5, nb5_b11, nb20_b2, nb2_b20, nb20_b3, nb3_b20, nb20_b4, nb4_b20, nb20_b5, nb5_b20, nb20_b11, nb11_b20, nb27_b2, nb2_b27, nb27_b3, nb3_b27, nb27_b4, nb4_b27, nb27_b5, nb5_b27, nb27_b11, nb11_b27, List.length_map, e1, z1, hg, o1, o2, o3, q1, q2, RR, seval, reduceCtorEq] at e
  have nb4_b30 : b4 ≠ b30 := fun e => nb30_b4 e.symm
  have nb30_b5 : b30 ≠ b5 := by rcases hn30 with e | e; rw [e]; exact nb27_b5; intro e2; rw [e2] at e; simp only [nb3_b2, nb2_b3, nb4_b2, nb2_b4, nb4_b3, nb3_b4, nb5_b2, nb2_b5, nb5_b3, nb3_b5, nb5_b4, nb4_b5, nb8_b2, nb2_b8, nb8_b3, nb3_b8, nb8_b4, nb4_b8, nb8_b5, nb5_b8, nb11_b2, nb2_b11, nb11_b3, nb3_b11, nb11_b4, nb4_b11, nb11_b5, nb5_b11, nb20_b2, nb2_b20, nb20_b3, nb3_b20, nb20_b4, nb4_b20, nb20_b5, nb5_b20, nb20_b11, nb11_b20, nb27_b2, nb2_b27, nb27_b3, nb3_b27, nb27_b4, nb4_b27, nb27_b5, nb5_b27, nb27_b11, nb11_b27, List.length_map, e1, z1, hg, o1, o2, o3, q1, q2, RR, seval, reduceCtorEq] at e
  have nb5_b30 : b5 ≠ b30 := fun e => nb30_b5 e.symm
  have nb30_b11 : b30 ≠ b11 := by rcases hn30 with e | e; rw [e]; exact nb27_b11; intro e2; rw [e2] at e; simp only [nb3_b2, nb2_b3, nb4_b2, nb2_b4, nb4_b3, nb3_b4, nb5_b2, nb2_b5, nb5_b3, nb3_b5, nb5_b4, nb4_b5, nb8_b2, nb2_b8, nb8_b3, nb3_b8, nb8_b4, nb4_b8, nb8_b5, nb5_b8, nb11_b2, nb2_b11, nb11_b3, nb3_b11, nb11_b4, nb4_b11, nb11_b5, nb5_b11, nb20_b2, nb2_b20, nb20_b3, nb3_b20, nb20_b4, nb4_b20, nb20_b5, nb5_b20, nb20_b11, nb11_b20, nb27_b2, nb2_b27, nb27_b3, nb3_b27, nb27_b4, nb4_b27, nb27_b5, nb5_b27, nb27_b11, nb11_b27, List.length_map, e1, z1, hg, o1, o2, o3, q1, q2, RR, seval, reduceCtorEq] at e
  have nb11_b30 : b11 ≠ b30 := fun e => nb30_b11 e.symm
  simp only [emitF, markOf, touch_mp, touch_imp, touch_nmp, ne_eq, not_true_eq_false, and_false, false_and, not_false_eq_true, List.length_append, nb3_b2, nb2_b3, nb4_b2, nb2_b4, nb4_b3, nb3_b4, nb5_b2, nb2_b5, nb5_b3, nb3_b5, nb5_b4, nb4_b5, nb8_b2, nb2_b8, nb8_b3, nb3_b8, nb8_b4, nb4_b8, nb8_b5, nb5_b8, nb11_b2, nb2_b11, nb11_b3, nb3_b11, nb11_b4, nb4_b11, nb11_b5, nb5_b11, nb20_b2, nb2_b20, nb20_b3, nb3_b20, nb20_b4, nb4_b20, nb20_b5, nb5_b20, nb20_b11, nb11_b20, nb27_b2, nb2_b27, nb27_b3, nb3_b27, nb27_b4, nb4_b27, nb27_b5, nb5_b27, nb27_b11, nb11_b27, nb30_b2, nb2_b30, nb30_b3, nb3_b30, nb30_b4, nb4_b30, nb30_b5, nb5_b30, nb30_b11, nb11_b30, List.length_map, e1, z1, hg, o1, o2, o3, q1, q2, RR, seval]
  refine hK _ _ ?_; clear hK K
  refine awp_name fun F1 M1 hfr hH => ?_
  have g4 := hfr 4
  have g5 := hfr 5
  have gb2 := hH b2
  have gb3 := hH b3
  have gb4 := hH b4
  have gb5 := hH b5
  have gb11 := hH b11
  have gb30 := hH b30
  try simp only [nb3_b2, nb2_b3, nb4_b2, nb2_b4, nb4_b3, nb3_b4, nb5_b2, nb2_b5, nb5_b3, nb3_b5, nb5_b4, nb4_b5, nb8_b2, nb2_b8, nb8_b3, nb3_b8, nb8_b4, nb4_b8, nb8_b5, nb5_b8, nb11_b2, nb2_b11, nb11_b3, nb3_b11, nb11_b4, nb4_b11, nb11_b5, nb5_b11, nb20_b2, nb2_b20, nb20_b3, nb3_b20, nb20_b4, nb4_b20, nb20_b5, nb5_b20, nb20_b11, nb11_b20, nb27_b2, nb2_b27, nb27_b3, nb3_b27, nb27_b4, nb4_b27, nb27_b5, nb5_b27, nb27_b11, nb11_b27, nb30_b2, nb2_b30, nb30_b3, nb3_b30, nb30_b4, nb4_b30, nb30_b5, nb5_b30, nb30_b11, nb11_b30, List.length_map, e1, z1, hg, o1, o2, o3, q1, q2, RR, seval] at g4 g5 gb2 gb3 gb4 gb5 gb11 gb30
  have f4 := g4; clear g4
  have f5 := g5; clear g5
  have hb2 := gb2; clear gb2
  have hb3 := gb3; clear gb3
  have hb4 := gb4; clear gb4
  have hb5 := gb5; clear gb5
  have hb11 := gb11; clear gb11
  have hb30 := gb30; clear gb30
  clear hfr hH
  refine awp_freezeAll hb30 ?_
  refine awp_name fun F2 M2 hfr hH => ?_
  have g4 := hfr 4
  have g5 := hfr 5
  have gb2 := hH b2
  have gb3 := hH b3
  have gb4 := hH b4
  have gb5 := hH b5
  have gb11 := hH b11
  try simp only [frzO_rows, List.map_cons, List.map_nil, Option.map_some, frz_osl, frz_isl, frz_int, frz_str, frz_bool, frz_ptr, frz_nsl, frz_self, and_self, List.length_map, List.length_set, List.length_append, List.length_cons, List.length_nil, List.map_set, frz_rowsF flat_fu, f4, f5, hb2, hb3, hb4, hb5, hb11, nb3_b2, nb2_b3, nb4_b2, nb2_b4, nb4_b3, nb3_b4, nb5_b2, nb2_b5, nb5_b3, nb3_b5, nb5_b4, nb4_b5, nb8_b2, nb2_b8, nb8_b3, nb3_b8, nb8_b4, nb4_b8, nb8_b5, nb5_b8, nb11_b2, nb2_b11, nb11_b3, nb3_b11, nb11_b4, nb4_b11, nb11_b5, nb5_b11, nb20_b2, nb2_b20, nb20_b3, nb3_b20, nb20_b4, nb4_b20, nb20_b5, nb5_b20, nb20_b11, nb11_b20, nb27_b2, nb2_b27, nb27_b3, nb3_b27, nb27_b4, nb4_b27, nb27_b5, nb5_b27, nb27_b11, nb11_b27, nb30_b2, nb2_b30, nb30_b3, nb3_b30, nb30_b4, nb4_b30, nb30_b5, nb5_b30, nb30_b11, nb11_b30, List.length_map, e1, z1, hg, o1, o2, o3, q1, q2, RR, seval] at g4 g5 gb2 gb3 gb4 gb5 gb11
  have f4 := g4; clear g4
  have f5 := g5; clear g5
  have hb2 := gb2; clear gb2
  have hb3 := gb3; clear gb3
  have hb4 := gb4; clear gb4
  have hb5 := gb5; clear gb5
  have hb11 := gb11; clear gb11
  clear hfr hH
  refine awp_name fun F3 M3 hfr hH => ?_
  have g4 := hfr 4
  have g5 := hfr 5
  have gb2 := hH b2
  have gb3 := hH b3
  have gb4 := hH b4
  have gb5 := hH b5
  have gb11 := hH b11
  try simp only [f4, f5, hb2, hb3, hb4, hb5, hb11, nb3_b2, nb2_b3, nb4_b2, nb2_b4, nb4_b3, nb3_b4, nb5_b2, nb2_b5, nb5_b3, nb3_b5, nb5_b4, nb4_b5, nb8_b2, nb2_b8, nb8_b3, nb3_b8, nb8_b4, nb4_b8, nb8_b5, nb5_b8, nb11_b2, nb2_b11, nb11_b3, nb3_b11, nb11_b4, nb4_b11, nb11_b5, nb5_b11, nb20_b2, nb2_b20, nb20_b3, nb3_b20, nb20_b4, nb4_b20, nb20_b5, nb5_b20, nb20_b11, nb11_b20, nb27_b2, nb2_b27, nb27_b3, nb3_b27, nb27_b4, nb4_b27, nb27_b5, nb5_b27, nb27_b11, nb11_b27, nb30_b2, nb2_b30, nb30_b3, nb3_b30, nb30_b4, nb4_b30, nb30_b5, nb5_b30, nb30_b11, nb11_b30, List.length_map, e1, z1, hg, o1, o2, o3, q1, q2, RR, seval] at g4 g5 gb2 gb3 gb4 gb5 gb11
  have f4 := g4; clear g4
  have f5 := g5; clear g5
  have hb2 := gb2; clear gb2
  have hb3 := gb3; clear gb3
  have hb4 := gb4; clear gb4
  have hb5 := gb5; clear gb5
  have hb11 := gb11; clear gb11
  clear hfr hH
  refine awp_freezeAll hb11 ?_
  refine awp_name fun F4 M4 hfr hH => ?_
  have g4 := hfr 4
  have g5 := hfr 5
  have gb2 := hH b2
  have gb3 := hH b3
  have gb4 := hH b4
  have gb5 := hH b5
  try simp only [frzO_rows, List.map_cons, List.map_nil, Option.map_some, frz_osl, frz_isl, frz_int, frz_str, frz_bool, frz_ptr, frz_nsl, frz_self, and_self, List.length_map, List.length_set, List.length_append, List.length_cons, List.length_nil, List.map_set, frz_rowsF flat_fu, f4, f5, hb2, hb3, hb4, hb5, nb3_b2, nb2_b3, nb4_b2, nb2_b4, nb4_b3, nb3_b4, nb5_b2, nb2_b5, nb5_b3, nb3_b5, nb5_b4, nb4_b5, nb8_b2, nb2_b8, nb8_b3, nb3_b8, nb8_b4, nb4_b8, nb8_b5, nb5_b8, nb11_b2, nb2_b11, nb11_b3, nb3_b11, nb11_b4, nb4_b11, nb11_b5, nb5_b11, nb20_b2, nb2_b20, nb20_b3, nb3_b20, nb20_b4, nb4_b20, nb20_b5, nb5_b20, nb20_b11, nb11_b20, nb27_b2, nb2_b27, nb27_b3, nb3_b27, nb27_b4, nb4_b27, nb27_b5, nb5_b27, nb27_b11, nb11_b27, nb30_b2, nb2_b30, nb30_b3, nb3_b30, nb30_b4, nb4_b30, nb30_b5, nb5_b30, nb30_b11, nb11_b30, List.length_map, e1, z1, hg, o1, o2, o3, q1, q2, RR, seval] at g4 g5 gb2 gb3 gb4 gb5
  have f4 := g4; clear g4
  have f5 := g5; clear g5
  have hb2 := gb2; clear gb2
  have hb3 := gb3; clear gb3
  have hb4 := gb4; clear gb4
  have hb5 := gb5; clear gb5
  clear hfr hH
  refine awp_seq_k fun K hK => ?_
  refine awp_region rfl ?_
  simp only [f4, f5, hb2, hb3, hb4, hb5, nb3_b2, nb2_b3, nb4_b2, nb2_b4, nb4_b3, nb3_b4, nb5_b2, nb2_b5, nb5_b3, nb3_b5, nb5_b4, nb4_b5, nb8_b2, nb2_b8, nb8_b3, nb3_b8, nb8_b4, nb4_b8, nb8_b5, nb5_b8, nb11_b2, nb2_b11, nb11_b3, nb3_b11, nb11_b4, nb4_b11, nb11_b5, nb5_b11, nb20_b2, nb2_b20, nb20_b3, nb3_b20, nb20_b4, nb4_b20, nb20_b5, nb5_b20, nb20_b11, nb11_b20, nb27_b2, nb2_b27, nb27_b3, nb3_b27, nb27_b4, nb4_b27, nb27_b5, nb5_b27, nb27_b11, nb11_b27, nb30_b2, nb2_b30, nb30_b3, nb3_b30, nb30_b4, nb4_b30, nb30_b5, nb5_b30, nb30_b11, nb11_b30, List.length_map, e1, z1, hg, o1, o2, o3, q1, q2, RR, seval]
  refine hK _ _ ?_; clear hK K
  refine awp_ret ?_; simp only [bodyQ, aresult, ares, f4, f5, hb2, hb3, hb4, hb5, nb3_b2, nb2_b3, nb4_b2, nb2_b4, nb4_b3, nb3_b4, nb5_b2, nb2_b5, nb5_b3, nb3_b5, nb5_b4, nb4_b5, nb8_b2, nb2_b8, nb8_b3, nb3_b8, nb8_b4, nb4_b8, nb8_b5, nb5_b8, nb11_b2, nb2_b11, nb11_b3, nb3_b11, nb11_b4, nb4_b11, nb11_b5, nb5_b11, nb20_b2, nb2_b20, nb20_b3, nb3_b20, nb20_b4, nb4_b20, nb20_b5, nb5_b20, nb20_b11, nb11_b20, nb27_b2, nb2_b27, nb27_b3, nb3_b27, nb27_b4, nb4_b27, nb27_b5, nb5_b27, nb27_b11, nb11_b27, nb30_b2, nb2_b30, nb30_b3, nb3_b30, nb30_b4, nb4_b30, nb30_b5, nb5_b30, nb30_b11, nb11_b30, List.length_map, e1, z1, hg, o1, o2, o3, q1, q2, RR, seval]
  refine Gives.pure ?_
  rfl
end Go.Proofs.YtefjogkgeelbdaaDoor

namespace Go.Al
/-- a program with a statement more at function i's end -/
def addS (p : Pg) (i : Nat) (g : Fu) (x : Sm) : Pg := ⟨p.vars, p.arrs, p.funs.set i ⟨g.name, g.params, g.locs, g.word, g.body ++ [x]⟩⟩
theorem find_set (s : Str) : ∀ (l : List Fu) (i : Nat) (g g' : Fu), l[i]? = some g → g'.name = g.name → g'.word = g.word → ((l.set i g').find? fun f => decide (f.name = s)).map Fu.word = (l.find? fun f => decide (f.name = s)).map Fu.word
  | [], i, g, g', h, _, _ => by simp at h
  | f :: l, 0, g, g', h, hn, hw => by
    simp only [List.getElem?_cons_zero, Option.some.injEq] at h
    subst h
    simp only [List.set_cons_zero, List.find?_cons, hn]
    cases decide (f.name = s) <;> simp [hw]
  | f :: l, i + 1, g, g', h, hn, hw => by
    simp only [List.getElem?_cons_succ] at h
    simp only [List.set_cons_succ, List.find?_cons]
    cases decide (f.name = s)
    · exact find_set s l i g g' h hn hw
    · rfl
theorem addS_fn (p : Pg) (i : Nat) (g : Fu) (x : Sm) (hg : p.funs[i]? = some g) (s : Str) : (fnOf (addS p i g x) s).map Fu.word = (fnOf p s).map Fu.word := find_set s p.funs i g _ hg rfl rfl
theorem knF_word (p : Pg) (s : Str) : knF p s = ((fnOf p s).map Fu.word).isSome := by simp [knF]
theorem wdF_word (p : Pg) (s : Str) : wdF p s = match (fnOf p s).map Fu.word with | some b => b | none => false := by unfold wdF; cases fnOf p s <;> rfl
theorem addS_kn (p : Pg) (i : Nat) (g : Fu) (x : Sm) (hg : p.funs[i]? = some g) : knF (addS p i g x) = knF p := funext fun s => by rw [knF_word, knF_word, addS_fn p i g x hg]
theorem addS_wd (p : Pg) (i : Nat) (g : Fu) (x : Sm) (hg : p.funs[i]? = some g) : wdF (addS p i g x) = wdF p := funext fun s => by rw [wdF_word, wdF_word, addS_fn p i g x hg]
theorem knT_app (K : Str → Bool) (x : Sm) : ∀ l : List Sm, knT K (l ++ [x]) = (knT K l && knM K x)
  | [] => by simp [knT_cons, knT_nil]
  | e :: l => by simp only [List.cons_append, knT_cons, knT_app K x l, Bool.and_assoc]
theorem fitT_app (W : Str → Bool) (w : Bool) (x : Sm) : ∀ l : List Sm, fitT W w (l ++ [x]) = (fitT W w l && fitM W w x)
  | [] => by simp [fitT_cons, fitT_nil]
  | e :: l => by simp only [List.cons_append, fitT_cons, fitT_app W w x l, Bool.and_assoc]
theorem all_set (P : Fu → Bool) : ∀ (l : List Fu) (i : Nat) (g g' : Fu), l[i]? = some g → l.all P = true → (l.set i g').all P = P g'
  | [], i, g, g', h, _ => by simp at h
  | f :: l, 0, g, g', h, ha => by
    simp only [List.all_cons, Bool.and_eq_true] at ha
    simp only [List.set_cons_zero, List.all_cons, ha.2, Bool.and_true]
  | f :: l, i + 1, g, g', h, ha => by
    simp only [List.getElem?_cons_succ] at h
    simp only [List.all_cons, Bool.and_eq_true] at ha
    simp only [List.set_cons_succ, List.all_cons, ha.1, all_set P l i g g' h ha.2, Bool.true_and]
/-- THE PLAIN LAW: the check of a sound program with a statement more. -/
theorem checkT_more (p : Pg) (i : Nat) (g : Fu) (x : Sm) (hg : p.funs[i]? = some g) (h : checkT p = 0) : checkT (addS p i g x) = if knM (knF p) x = true then (if fitM (wdF p) g.word x = true then 0 else 5) else 4 := by
  unfold checkT at h ⊢
  cases hk : p.funs.all fun f => knT (knF p) f.body with
  | false => simp [hk] at h
  | true =>
    cases hf : p.funs.all fun f => fitT (wdF p) f.word f.body with
    | false => simp [hk, hf] at h
    | true =>
      have hm := List.mem_of_getElem? hg
      have k1 := List.all_eq_true.1 hk g hm
      have f1 := List.all_eq_true.1 hf g hm
      rw [addS_kn p i g x hg, addS_wd p i g x hg]
      simp only [addS]
      have a1 := all_set _ p.funs i g ⟨g.name, g.params, g.locs, g.word, g.body ++ [x]⟩ hg hk
      have a2 := all_set _ p.funs i g ⟨g.name, g.params, g.locs, g.word, g.body ++ [x]⟩ hg hf
      simp only [knT_app, fitT_app, k1, f1, Bool.true_and] at a1 a2
      simp only [a1, a2]
end Go.Al

namespace Go.Al
theorem SubR.refl : ∀ l : List AV, SubR l l
  | [] => .nil
  | x :: l => .cons (Sub.refl x) (SubR.refl l)
theorem SubRs.refl : ∀ l : List (List AV), SubRs l l
  | [] => .nil
  | x :: l => .cons (SubR.refl x) (SubRs.refl l)
theorem SubRs.snoc {x y : List AV} (h : SubR x y) : ∀ l : List (List AV), SubRs (l ++ [x]) (l ++ [y])
  | [] => .cons h .nil
  | z :: l => .cons (SubR.refl z) (SubRs.snoc h l)
theorem SubRs.set {x y : List AV} (h : SubR x y) : ∀ (l : List (List AV)) (i : Nat), SubRs (l.set i x) (l.set i y)
  | [], _ => .nil
  | z :: l, 0 => .cons h (SubRs.refl l)
  | z :: l, i + 1 => .cons (SubR.refl z) (SubRs.set h l i)
theorem addS_av (p : Pg) (i : Nat) (g : Fu) (x : Sm) : (addS p i g x).av = .agg [.isl 1 (p.vars.map strRow), .isl 2 (p.arrs.map Ar.row), .isl 5 ((p.funs.map Fu.row).set i [.str g.name, .isl 1 (g.params.map strRow), .isl 1 (g.locs.map strRow), .bool g.word, .isl 5 (g.body.map Sm.row ++ [x.row])])] := by
  simp only [Pg.av, Pg.row, addS, List.map_set, Fu.row, List.map_append]
  rfl
end Go.Al
namespace Go.Proofs.YtefjogkgeelbdaaDoor
open Go.Al
theorem more_con (p : Pg) (hv : p.few) (h1 : 1 ≤ p.funs.length) (g : Fu) (hg0 : p.funs[p.funs.length - 1]? = some g) (k : Int) (s : Str) (v1 v2 v3 : AV) (o1 : one v1 = true) (o2 : one v2 = true) (o3 : one v3 = true) (x : Sm) (hx : SubR [.int .i64 k, .str s, v1, v2, v3] x.row) : PCon env 22 [p.av, .agg [.int .i64 k, .str s, v1, v2, v3]] (addS p (p.funs.length - 1) g x).av := by
  rw [addS_av]
  exact pcon_weak (more_raw p hv h1 g hg0 k s v1 v2 v3 o1 o2 o3) (Sub.aggR (.cons (Sub.refl _) (.cons (Sub.refl _) (.cons (Sub.isl (SubRs.set (.cons (Sub.refl _) (.cons (Sub.refl _) (.cons (Sub.refl _) (.cons (Sub.refl _) (.cons (Sub.isl (SubRs.snoc hx _)) .nil))))) _ _)) .nil))))
end Go.Proofs.YtefjogkgeelbdaaDoor

namespace Go.Al
theorem addS_ok {p : Pg} (hp : p.ok) {i : Nat} {g : Fu} (hg : p.funs[i]? = some g) (hl : g.body.length ≤ 1000000) {x : Sm} (hx : x.ok) : (addS p i g x).ok := by
  have hgo := hp.funs g (List.mem_of_getElem? hg)
  refine ⟨hp.vars, hp.afit, hp.arrs, ?_, fun f hf => ?_⟩
  · have := hp.ffit
    show (p.funs.set i _).length ≤ _
    rw [List.length_set]; exact this
  · rcases List.mem_or_eq_of_mem_set hf with hf | rfl
    · exact hp.funs f hf
    · refine ⟨hgo.name, hgo.params, hgo.locs, ⟨?_, fun e he => ?_⟩⟩
      · simp only [fitL, List.length_append, List.length_singleton]; omega
      · rcases List.mem_append.1 he with he | he
        · exact hgo.body.all e he
        · rw [List.mem_singleton] at he; rw [he]; exact hx
theorem sm_ok' (k : Int) (hk : i64R k) {s : Str} (hs : fitL s) {l : List Ex} (hl : okE l) : (Sm.mk k s l [] []).ok := .mk k s l [] [] hk hs hl (by simp [fitL]) (fun _ h => by simp at h) (by simp [fitL]) (fun _ h => by simp at h)
theorem placeN_self : ∀ (l : List Str), l.Nodup → ∀ (i : Nat) s, l[i]? = some s → placeN l s = some i
  | [], _, i, s, h => by simp at h
  | x :: l, hd, 0, s, h => by
    simp only [List.getElem?_cons_zero, Option.some.injEq] at h
    simp [placeN, h]
  | x :: l, hd, i + 1, s, h => by
    simp only [List.getElem?_cons_succ] at h
    rw [List.nodup_cons] at hd
    have hne : ¬ x = s := fun e => hd.1 (e ▸ List.mem_of_getElem? h)
    simp [placeN, hne, placeN_self l hd.2 i s h]
end Go.Al
namespace Go.Proofs.YtefjogkgeelbdaaDoor
open Go.Al
theorem sound_parts {p : Pg} (h : soundT p = 0) : rightP p = true ∧ checkI p = 0 ∧ checkT p = 0 := by
  unfold soundT at h
  by_cases h1 : rightP p = true
  · rw [if_pos h1] at h
    by_cases h2 : checkI p = 0
    · rw [if_pos h2] at h
      exact ⟨h1, h2, h⟩
    · rw [if_neg h2] at h
      exact absurd h h2
  · rw [if_neg h1] at h
    cases h
theorem check_parts {p : Pg} (h : checkI p = 0) : (globL p).Nodup ∧ namesB p = true ∧ numsB p = true := by
  unfold checkI at h
  split at h
  · rename_i h1
    split at h
    · rename_i h2
      refine ⟨?_, h1, h2⟩
      simp only [namesB, Bool.and_eq_true, decide_eq_true_eq] at h1
      exact h1.1
    · cases h
  · cases h
theorem fn_self {p : Pg} (h : checkI p = 0) {i : Nat} {f : Fu} (hf : p.funs[i]? = some f) : fnOf p f.name = some f := by
  have hn := (check_parts h).1
  have hn2 : (p.funs.map Fu.name).Nodup := by
    unfold globL at hn
    exact (List.nodup_append.1 hn).2.1
  rw [fnOf_place, placeN_self _ hn2 i f.name (by rw [List.getElem?_map, hf]; rfl)]
  simpa using hf
set_option maxHeartbeats 4000000 in
theorem TypingStmts_con (p : Pg) (hp : p.ok) (e : Ex) (he : e.ok) (w : Int) (hw0 : 0 ≤ w ∧ w ≤ 255) : PCon env 7 [p.av, .agg e.row, .int .u8 w] (.bool true) := by
  have hF := Few_con p hp 100 (by omega) (by omega)
  have hw := fewB_few p hp 100 (by omega)
  have hL := LeftExprs_con _ [e] 100 20 (Nat.le_refl _) (okE_1 he) (by omega) (by omega) (by omega) (by omega)
  have hX := RightExpr_con e he 2 (by omega) (by omega)
  have hS := fun h => pSound_con p h
  have hav : p.av = .agg p.row := rfl
  have hrow : p.row = [.isl 1 (p.vars.map strRow), .isl 2 (p.arrs.map Ar.row), .isl 5 (p.funs.map Fu.row)] := rfl
  rw [List.map_cons, List.map_nil] at hL
  cases hc : fewB p 100 with
  | false =>
    rw [hc] at hF
    rw [hav, hrow] at hF ⊢
    rw [e.row_eq] at *
    refine con_of 129 [.tmp 6] Tryd.func7 rfl rfl rfl rfl ?_
    refine awp_seq_k fun K hK => ?_
    refine awp_region rfl ?_
    simp only [RR, seval]
    refine awpN_intro fun b3 hn3 => ?_
    simp only [RR, seval]
    refine awpN_intro fun b4 hn4 => ?_
    have nb4_b3 : b4 ≠ b3 := fun e => by rw [e] at hn4; simp only [RR, seval, reduceCtorEq] at hn4
    have nb3_b4 : b3 ≠ b4 := fun e => nb4_b3 e.symm
    simp only [nb4_b3, nb3_b4, RR, seval]
    refine hK _ _ ?_; clear hK K
    refine awp_seq ?_
    refine awp_seq_k fun K hK => ?_
    refine awp_region rfl ?_
    simp only [nb4_b3, nb3_b4, RR, seval]
    refine awpC_pure' (awake_con) ?_
    simp only [nb4_b3, nb3_b4, RR, seval]
    refine hK _ _ ?_; clear hK K
    refine awp_if false rfl (fun hc => by cases hc) (fun _ => ?_)
    refine awp_skip ?_; try simp only [RR]
    refine awp_seq ?_
    refine awp_seq_k fun K hK => ?_
    refine awp_region rfl ?_
    simp only [nb4_b3, nb3_b4, RR, seval]
    all_goals try (refine awpC_pure' (hF) ?_; simp only [nb4_b3, nb3_b4, RR, seval])
    all_goals try ((first | refine awpG_splitN (fun h => ?_) (fun h => ?_) | refine awpG_split (fun h => ?_) (fun h => ?_)) <;> simp only [h, nb4_b3, nb3_b4, RR, seval])
    all_goals try (refine awpB_sealed ?_; simp only [nb4_b3, nb3_b4, RR, seval])
    all_goals try ((first | refine awpG_splitN (fun h => ?_) (fun h => ?_) | refine awpG_split (fun h => ?_) (fun h => ?_)) <;> simp only [h, nb4_b3, nb3_b4, RR, seval])
    all_goals try ((first | refine awpG_splitN (fun h => ?_) (fun h => ?_) | refine awpG_split (fun h => ?_) (fun h => ?_)) <;> simp only [h, nb4_b3, nb3_b4, RR, seval])
    all_goals
      refine hK _ _ ?_; clear hK K
      refine awp_if true rfl (fun _ => ?_) (fun hc => by cases hc)
      refine awp_seq_k fun K hK => ?_
      refine awp_region rfl ?_
      simp only [nb4_b3, nb3_b4, RR, seval]
      refine hK _ _ ?_; clear hK K
      refine awp_ret ?_; simp only [bodyQ, aresult, ares, nb4_b3, nb3_b4, RR, seval]
      refine Gives.pure ?_
      rfl
  | true =>
    have hv := hw hc
    rw [hc] at hF
    have hS := hS hv
    obtain ⟨LB, zl⟩ : ∃ b, decide (leftE [e] 100 20 < 0) = b := ⟨_, rfl⟩
    generalize leftE [e] 100 20 = le at *
    generalize hRX : rightX e 2 = RX at *
    obtain ⟨SB, zs⟩ : ∃ b, decide (soundT p = 0) = b := ⟨_, rfl⟩
    cases LB
    · cases RX
      · rw [hav, hrow] at hF ⊢
        rw [e.row_eq] at *
        refine con_of 129 [.tmp 6] Tryd.func7 rfl rfl rfl rfl ?_
        refine awp_seq_k fun K hK => ?_
        refine awp_region rfl ?_
        simp only [zl, RR, seval]
        refine awpN_intro fun b3 hn3 => ?_
        simp only [zl, RR, seval]
        refine awpN_intro fun b4 hn4 => ?_
        have nb4_b3 : b4 ≠ b3 := fun e => by rw [e] at hn4; simp only [zl, RR, seval, reduceCtorEq] at hn4
        have nb3_b4 : b3 ≠ b4 := fun e => nb4_b3 e.symm
        simp only [nb4_b3, nb3_b4, zl, RR, seval]
        refine hK _ _ ?_; clear hK K
        refine awp_seq ?_
        refine awp_seq_k fun K hK => ?_
        refine awp_region rfl ?_
        simp only [nb4_b3, nb3_b4, zl, RR, seval]
        refine awpC_pure' (awake_con) ?_
        simp only [nb4_b3, nb3_b4, zl, RR, seval]
        refine hK _ _ ?_; clear hK K
        refine awp_if false rfl (fun hc => by cases hc) (fun _ => ?_)
        refine awp_skip ?_; try simp only [RR]
        refine awp_seq ?_
        refine awp_seq_k fun K hK => ?_
        refine awp_region rfl ?_
        simp only [nb4_b3, nb3_b4, zl, RR, seval]
        all_goals try (refine awpC_pure' (hF) ?_; simp only [nb4_b3, nb3_b4, zl, RR, seval])
        all_goals try ((first | refine awpG_splitN (fun h => ?_) (fun h => ?_) | refine awpG_split (fun h => ?_) (fun h => ?_)) <;> simp only [h, nb4_b3, nb3_b4, zl, RR, seval])
        all_goals try (refine awpB_sealed ?_; simp only [nb4_b3, nb3_b4, zl, RR, seval])
        all_goals try (refine awpC_pure' (hL) ?_; simp only [nb4_b3, nb3_b4, zl, RR, seval])
        all_goals try ((first | refine awpG_splitN (fun h => ?_) (fun h => ?_) | refine awpG_split (fun h => ?_) (fun h => ?_)) <;> simp only [h, nb4_b3, nb3_b4, zl, RR, seval])
        all_goals try (refine awpC_pure' (hX) ?_; simp only [nb4_b3, nb3_b4, zl, RR, seval])
        all_goals try ((first | refine awpG_splitN (fun h => ?_) (fun h => ?_) | refine awpG_split (fun h => ?_) (fun h => ?_)) <;> simp only [h, nb4_b3, nb3_b4, zl, RR, seval])
        all_goals
          refine hK _ _ ?_; clear hK K
          refine awp_if true rfl (fun _ => ?_) (fun hc => by cases hc)
          refine awp_seq_k fun K hK => ?_
          refine awp_region rfl ?_
          simp only [nb4_b3, nb3_b4, zl, RR, seval]
          refine hK _ _ ?_; clear hK K
          refine awp_ret ?_; simp only [bodyQ, aresult, ares, nb4_b3, nb3_b4, zl, RR, seval]
          refine Gives.pure ?_
          rfl
      · cases SB
        · generalize soundT p = sd at *
          rw [hav, hrow] at hF hS ⊢
          rw [e.row_eq] at *
          refine con_of 129 [.tmp 6] Tryd.func7 rfl rfl rfl rfl ?_
          refine awp_seq_k fun K hK => ?_
          refine awp_region rfl ?_
          simp only [zl, zs, RR, seval]
          refine awpN_intro fun b3 hn3 => ?_
          simp only [zl, zs, RR, seval]
          refine awpN_intro fun b4 hn4 => ?_
          have nb4_b3 : b4 ≠ b3 := fun e => by rw [e] at hn4; simp only [zl, zs, RR, seval, reduceCtorEq] at hn4
          have nb3_b4 : b3 ≠ b4 := fun e => nb4_b3 e.symm
          simp only [nb4_b3, nb3_b4, zl, zs, RR, seval]
          refine hK _ _ ?_; clear hK K
          refine awp_seq ?_
          refine awp_seq_k fun K hK => ?_
          refine awp_region rfl ?_
          simp only [nb4_b3, nb3_b4, zl, zs, RR, seval]
          refine awpC_pure' (awake_con) ?_
          simp only [nb4_b3, nb3_b4, zl, zs, RR, seval]
          refine hK _ _ ?_; clear hK K
          refine awp_if false rfl (fun hc => by cases hc) (fun _ => ?_)
          refine awp_skip ?_; try simp only [RR]
          refine awp_seq ?_
          refine awp_seq_k fun K hK => ?_
          refine awp_region rfl ?_
          simp only [nb4_b3, nb3_b4, zl, zs, RR, seval]
          all_goals try (refine awpC_pure' (hF) ?_; simp only [nb4_b3, nb3_b4, zl, zs, RR, seval])
          all_goals try ((first | refine awpG_splitN (fun h => ?_) (fun h => ?_) | refine awpG_split (fun h => ?_) (fun h => ?_)) <;> simp only [h, nb4_b3, nb3_b4, zl, zs, RR, seval])
          all_goals try (refine awpB_sealed ?_; simp only [nb4_b3, nb3_b4, zl, zs, RR, seval])
          all_goals try (refine awpC_pure' (hL) ?_; simp only [nb4_b3, nb3_b4, zl, zs, RR, seval])
          all_goals try ((first | refine awpG_splitN (fun h => ?_) (fun h => ?_) | refine awpG_split (fun h => ?_) (fun h => ?_)) <;> simp only [h, nb4_b3, nb3_b4, zl, zs, RR, seval])
          all_goals try (refine awpC_pure' (hX) ?_; simp only [nb4_b3, nb3_b4, zl, zs, RR, seval])
          all_goals try ((first | refine awpG_splitN (fun h => ?_) (fun h => ?_) | refine awpG_split (fun h => ?_) (fun h => ?_)) <;> simp only [h, nb4_b3, nb3_b4, zl, zs, RR, seval])
          all_goals try (refine awpC_pure' (hS) ?_; simp only [nb4_b3, nb3_b4, zl, zs, RR, seval])
          all_goals
            refine hK _ _ ?_; clear hK K
            refine awp_if true rfl (fun _ => ?_) (fun hc => by cases hc)
            refine awp_seq_k fun K hK => ?_
            refine awp_region rfl ?_
            simp only [nb4_b3, nb3_b4, zl, zs, RR, seval]
            refine hK _ _ ?_; clear hK K
            refine awp_ret ?_; simp only [bodyQ, aresult, ares, nb4_b3, nb3_b4, zl, zs, RR, seval]
            refine Gives.pure ?_
            rfl
        · have hs0 : soundT p = 0 := of_decide_eq_true zs
          rw [hs0] at hS
          obtain ⟨hr, hck, hct⟩ := sound_parts hs0
          have h1 : 1 ≤ p.funs.length := by
            simp only [rightP, Bool.and_eq_true, decide_eq_true_eq] at hr
            exact hr.1.1.1.2
          have hlast : p.funs.length - 1 < p.funs.length := by omega
          have hg0 := List.getElem?_eq_getElem hlast
          have hgw : (p.funs[p.funs.length - 1]).word = false := by
            have := (check_parts hck).2.2
            simp only [numsB, lastB, hg0, Bool.and_eq_true, Bool.not_eq_true'] at this
            exact this.2.2
          have hgs := hv.fs _ (List.getElem_mem hlast)
          generalize p.funs[p.funs.length - 1] = g at hg0 hgw hgs
          have hgl : g.body.length ≤ 1000000 := by have := len_szS' g.body; omega
          obtain ⟨m1, hm1⟩ := Int.eq_ofNat_of_zero_le hw0.1
          subst hm1
          have e1 : IntKind.wrap .i64 (m1 : Int) = (m1 : Int) := by rw [IntWalk.i64_in _ (by omega)]
          have e2 : (m1 : Int).tmod (p.funs.length : Int) = ((m1 % p.funs.length : Nat) : Int) := IntWalk.up_tmod rfl rfl
          have e4 : ¬ ((p.funs.length : Int) = 0) := by omega
          have hil : m1 % p.funs.length < p.funs.length := Nat.mod_lt _ (by omega)
          generalize m1 % p.funs.length = i at e2 hil
          have hf0 := List.getElem?_eq_getElem hil
          generalize p.funs[i] = f at hf0
          have hfn := fn_self hck hf0
          have hfok := hp.funs f (List.mem_of_getElem? hf0)
          have hff := getF hf0
          have z1 : (i : Int) < (p.funs.length : Int) := by omega
          have c1 := pCheckT_con _ (addS_ok hp hg0 hgl (sm_ok' 3 (by simp [i64R]) (s := []) (by simp [fitL]) (okE_1 he)))
          have c2 := pCheckT_con _ (addS_ok hp hg0 hgl (sm_ok' 5 (by simp [i64R]) (s := []) (by simp [fitL]) (okE_1 he)))
          have c3 := pCheckT_con _ (addS_ok hp hg0 hgl (sm_ok' 7 (by simp [i64R]) (s := []) (by simp [fitL]) (okE_1 he)))
          have c4 := pCheckT_con _ (addS_ok hp hg0 hgl (sm_ok' 6 (by simp [i64R]) (s := f.name) hfok.name okE_nil))
          have c5 := pCheckT_con _ (addS_ok hp hg0 hgl (sm_ok' 7 (by simp [i64R]) (s := []) (by simp [fitL]) okE_nil))
          rw [checkT_more p _ g _ hg0 hct] at c1 c2 c3 c4 c5
          have hkf : knF p f.name = true := by simp [knF, hfn]
          have hwf : wdF p f.name = f.word := by simp [wdF, hfn]
          have hex : ∀ x : Sm, [AV.int .i64 x.kind, .str x.name, .isl 5 (x.es.map Ex.row), .isl 5 (x.thn.map Sm.row), .isl 5 (x.els.map Sm.row)] = x.row := fun x => x.row_eq.symm
          have q := fun k => more_con p hv h1 g hg0 k [] (.isl 5 [e.row]) .nsl .nsl rfl rfl rfl (.mk k [] [e] [] []) (by rw [← hex]; exact .cons (Sub.refl _) (.cons (Sub.refl _) (.cons (Sub.refl _) (.cons (Sub.nsl 5) (.cons (Sub.nsl 5) .nil)))))
          have q1 := q 3
          have q2 := q 5
          have q3 := q 7
          clear q
          have q4 := more_con p hv h1 g hg0 6 f.name .nsl .nsl .nsl rfl rfl rfl (.mk 6 f.name [] [] []) (by rw [← hex]; exact .cons (Sub.refl _) (.cons (Sub.refl _) (.cons (Sub.nsl 5) (.cons (Sub.nsl 5) (.cons (Sub.nsl 5) .nil)))))
          have q5 := more_con p hv h1 g hg0 7 [] .nsl .nsl .nsl rfl rfl rfl (.mk 7 [] [] [] []) (by rw [← hex]; exact .cons (Sub.refl _) (.cons (Sub.refl _) (.cons (Sub.nsl 5) (.cons (Sub.nsl 5) (.cons (Sub.nsl 5) .nil)))))
          have h0 := pExpr_con p hp e he
          simp only [exprT] at h0
          simp only [knM_eq, fitM_eq, Sm.kind, Sm.name, Sm.es, Sm.thn, Sm.els, knL_cons, knL_nil, knT_nil, allT_cons, allT_nil, fitT_nil, hgw, hkf, hwf, wantS] at c1 c2 c3 c4 c5
          have ht := tyE_012 (wdF p) e
          generalize (addS p (p.funs.length - 1) g (.mk 3 [] [e] [] [])).av = A1 at *
          generalize (addS p (p.funs.length - 1) g (.mk 5 [] [e] [] [])).av = A2 at *
          generalize (addS p (p.funs.length - 1) g (.mk 7 [] [e] [] [])).av = A3 at *
          generalize (addS p (p.funs.length - 1) g (.mk 6 f.name [] [] [])).av = A4 at *
          generalize (addS p (p.funs.length - 1) g (.mk 7 [] [] [] [])).av = A5 at *
          generalize knE (knF p) e = K at *
          generalize tyE (wdF p) e = t at *
          generalize f.word = FW at *
          clear hw hv hs0 hr hck hct hg0 hgw hgs hgl hfn hfok hex hwf hkf he hp zs
          rw [hav, hrow] at *
          rw [e.row_eq] at *
          cases K <;> rcases ht with rfl | rfl | rfl <;> cases FW
          all_goals
            simp only [if_true, if_false, Bool.false_eq_true, Int.reduceEq, reduceIte, Bool.not_true, Bool.not_false, Bool.and_true, Bool.true_and, Bool.and_false, Bool.false_and, decide_true, decide_false, Bool.or_true, Bool.or_false, Bool.true_or, Bool.false_or, or_true, or_false, true_or, false_or, List.length_cons, List.length_nil, Nat.zero_add, Nat.lt_add_one, Nat.lt_irrefl] at h0 c1 c2 c3 c4 c5
            refine con_of 129 [.tmp 6] Tryd.func7 rfl rfl rfl rfl ?_
            refine awp_seq_k fun K hK => ?_
            refine awp_region rfl ?_
            simp only [zl, List.length_map, e1, e2, e4, z1, hff, RR, seval]
            refine awpN_intro fun b3 hn3 => ?_
            simp only [zl, List.length_map, e1, e2, e4, z1, hff, RR, seval]
            refine awpN_intro fun b4 hn4 => ?_
            have nb4_b3 : b4 ≠ b3 := fun e => by rw [e] at hn4; simp only [zl, List.length_map, e1, e2, e4, z1, hff, RR, seval, reduceCtorEq] at hn4
            have nb3_b4 : b3 ≠ b4 := fun e => nb4_b3 e.symm
            simp only [nb4_b3, nb3_b4, zl, List.length_map, e1, e2, e4, z1, hff, RR, seval]
            refine hK _ _ ?_; clear hK K
            refine awp_seq ?_
            refine awp_seq_k fun K hK => ?_
            refine awp_region rfl ?_
            simp only [nb4_b3, nb3_b4, zl, List.length_map, e1, e2, e4, z1, hff, RR, seval]
            refine awpC_pure' (awake_con) ?_
            simp only [nb4_b3, nb3_b4, zl, List.length_map, e1, e2, e4, z1, hff, RR, seval]
            refine hK _ _ ?_; clear hK K
            refine awp_if false rfl (fun hc => by cases hc) (fun _ => ?_)
            refine awp_skip ?_; try simp only [RR]
            refine awp_seq ?_
            refine awp_seq_k fun K hK => ?_
            refine awp_region rfl ?_
            simp only [nb4_b3, nb3_b4, zl, List.length_map, e1, e2, e4, z1, hff, RR, seval]
            all_goals try (refine awpC_pure' (hF) ?_; simp only [nb4_b3, nb3_b4, zl, List.length_map, e1, e2, e4, z1, hff, RR, seval])
            all_goals try ((first | refine awpG_splitN (fun h => ?_) (fun h => ?_) | refine awpG_split (fun h => ?_) (fun h => ?_)) <;> simp only [h, nb4_b3, nb3_b4, zl, List.length_map, e1, e2, e4, z1, hff, RR, seval])
            all_goals try (refine awpB_sealed ?_; simp only [nb4_b3, nb3_b4, zl, List.length_map, e1, e2, e4, z1, hff, RR, seval])
            all_goals try (refine awpC_pure' (hL) ?_; simp only [nb4_b3, nb3_b4, zl, List.length_map, e1, e2, e4, z1, hff, RR, seval])
            all_goals try ((first | refine awpG_splitN (fun h => ?_) (fun h => ?_) | refine awpG_split (fun h => ?_) (fun h => ?_)) <;> simp only [h, nb4_b3, nb3_b4, zl, List.length_map, e1, e2, e4, z1, hff, RR, seval])
            all_goals try (refine awpC_pure' (hX) ?_; simp only [nb4_b3, nb3_b4, zl, List.length_map, e1, e2, e4, z1, hff, RR, seval])
            all_goals try ((first | refine awpG_splitN (fun h => ?_) (fun h => ?_) | refine awpG_split (fun h => ?_) (fun h => ?_)) <;> simp only [h, nb4_b3, nb3_b4, zl, List.length_map, e1, e2, e4, z1, hff, RR, seval])
            all_goals try (refine awpC_pure' (hS) ?_; simp only [nb4_b3, nb3_b4, zl, List.length_map, e1, e2, e4, z1, hff, RR, seval])
            all_goals
              refine hK _ _ ?_; clear hK K
              refine awp_if false rfl (fun hc => by cases hc) (fun _ => ?_)
              refine awp_skip ?_; try simp only [RR]
              refine awp_seq_k fun K hK => ?_
              refine awp_region rfl ?_
              simp only [nb4_b3, nb3_b4, zl, List.length_map, e1, e2, e4, z1, hff, RR, seval]
              refine awpC_pure' (h0) ?_
              simp only [nb4_b3, nb3_b4, zl, List.length_map, e1, e2, e4, z1, hff, RR, seval]
              refine hK _ _ ?_; clear hK K
              refine awp_seq_k fun K hK => ?_
              refine awp_region rfl ?_
              simp only [nb4_b3, nb3_b4, zl, List.length_map, e1, e2, e4, z1, hff, RR, seval]
              refine hK _ _ ?_; clear hK K
              refine awp_seq ?_
              refine awp_seq_k fun K hK => ?_
              refine awp_region rfl ?_
              simp only [nb4_b3, nb3_b4, zl, List.length_map, e1, e2, e4, z1, hff, RR, seval]
              refine hK _ _ ?_; clear hK K
              refine awp_if _ rfl (fun hc7 => ?_) (fun hc7 => ?_)
              · try (cases hc7; done)
                all_goals
                  refine awp_region rfl ?_
                  simp only [nb4_b3, nb3_b4, zl, List.length_map, e1, e2, e4, z1, hff, RR, seval]
                  refine awp_seq_k fun K hK => ?_
                  refine awp_region rfl ?_
                  simp only [nb4_b3, nb3_b4, zl, List.length_map, e1, e2, e4, z1, hff, RR, seval]
                  refine awpB_sealed ?_
                  simp only [nb4_b3, nb3_b4, zl, List.length_map, e1, e2, e4, z1, hff, RR, seval]
                  refine hK _ _ ?_; clear hK K
                  refine awp_seq_k fun K hK => ?_
                  refine awp_region rfl ?_
                  simp only [nb4_b3, nb3_b4, zl, List.length_map, e1, e2, e4, z1, hff, RR, seval]
                  refine awpC_pure' (q1) ?_
                  simp only [nb4_b3, nb3_b4, zl, List.length_map, e1, e2, e4, z1, hff, RR, seval]
                  refine awpC_pure' (c1) ?_
                  simp only [nb4_b3, nb3_b4, zl, List.length_map, e1, e2, e4, z1, hff, RR, seval]
                  refine hK _ _ ?_; clear hK K
                  refine awp_seq_k fun K hK => ?_
                  refine awp_region rfl ?_
                  simp only [nb4_b3, nb3_b4, zl, List.length_map, e1, e2, e4, z1, hff, RR, seval]
                  refine awpC_pure' (q2) ?_
                  simp only [nb4_b3, nb3_b4, zl, List.length_map, e1, e2, e4, z1, hff, RR, seval]
                  refine awpC_pure' (c2) ?_
                  simp only [nb4_b3, nb3_b4, zl, List.length_map, e1, e2, e4, z1, hff, RR, seval]
                  refine hK _ _ ?_; clear hK K
                  refine awp_seq_k fun K hK => ?_
                  refine awp_region rfl ?_
                  simp only [nb4_b3, nb3_b4, zl, List.length_map, e1, e2, e4, z1, hff, RR, seval]
                  refine awpC_pure' (q3) ?_
                  simp only [nb4_b3, nb3_b4, zl, List.length_map, e1, e2, e4, z1, hff, RR, seval]
                  refine awpC_pure' (c3) ?_
                  simp only [nb4_b3, nb3_b4, zl, List.length_map, e1, e2, e4, z1, hff, RR, seval]
                  refine hK _ _ ?_; clear hK K
                  refine awp_seq ?_
                  refine awp_seq_k fun K hK => ?_
                  refine awp_region rfl ?_
                  simp only [nb4_b3, nb3_b4, zl, List.length_map, e1, e2, e4, z1, hff, RR, seval]
                  refine hK _ _ ?_; clear hK K
                  refine awp_if _ rfl (fun hc13 => ?_) (fun hc13 => ?_)
                  · try (cases hc13; done)
                    all_goals
                      refine awp_seq_k fun K hK => ?_
                      refine awp_region rfl ?_
                      simp only [nb4_b3, nb3_b4, zl, List.length_map, e1, e2, e4, z1, hff, RR, seval]
                      refine hK _ _ ?_; clear hK K
                      refine awp_ret ?_; simp only [bodyQ, aresult, ares, nb4_b3, nb3_b4, zl, List.length_map, e1, e2, e4, z1, hff, RR, seval]
                      refine Gives.pure ?_
                      rfl
                  · try (cases hc13; done)
                    all_goals
                      refine awp_skip ?_; try simp only [RR]
                      refine awp_seq ?_
                      refine awp_seq_k fun K hK => ?_
                      refine awp_region rfl ?_
                      simp only [nb4_b3, nb3_b4, zl, List.length_map, e1, e2, e4, z1, hff, RR, seval]
                      refine hK _ _ ?_; clear hK K
                      refine awp_if _ rfl (fun hc15 => ?_) (fun hc15 => ?_)
                      · try (cases hc15; done)
                        all_goals
                          refine awp_seq_k fun K hK => ?_
                          refine awp_region rfl ?_
                          simp only [nb4_b3, nb3_b4, zl, List.length_map, e1, e2, e4, z1, hff, RR, seval]
                          refine hK _ _ ?_; clear hK K
                          refine awp_ret ?_; simp only [bodyQ, aresult, ares, nb4_b3, nb3_b4, zl, List.length_map, e1, e2, e4, z1, hff, RR, seval]
                          refine Gives.pure ?_
                          rfl
                      · try (cases hc15; done)
                        all_goals
                          refine awp_skip ?_; try simp only [RR]
                          refine awp_seq_k fun K hK => ?_
                          refine awp_region_draw2 (fun x => x ≠ b3 ∧ x ≠ b4) [(0, 3), (1, 0), (2, 3), (3, 3), (4, 3), (5, 0), (6, 3), (7, 3), (8, 3), (9, 0), (10, 1)] [(11, 1)] draws (by kernel_rfl) rfl rfl ?_
                          simp only [emitF, markOf, touch_mp, touch_imp, touch_nmp, ne_eq, not_true_eq_false, and_false, false_and, not_false_eq_true, nb4_b3, nb3_b4, zl, List.length_map, e1, e2, e4, z1, hff, RR, seval]
                          refine awpN_intro fun b14 hn14 => ?_
                          have nb14_b3 : b14 ≠ b3 := fun e => by rw [e] at hn14; simp only [nb4_b3, nb3_b4, zl, List.length_map, e1, e2, e4, z1, hff, RR, seval, reduceCtorEq] at hn14
                          have nb3_b14 : b3 ≠ b14 := fun e => nb14_b3 e.symm
                          have nb14_b4 : b14 ≠ b4 := fun e => by rw [e] at hn14; simp only [nb4_b3, nb3_b4, zl, List.length_map, e1, e2, e4, z1, hff, RR, seval, reduceCtorEq] at hn14
                          have nb4_b14 : b4 ≠ b14 := fun e => nb14_b4 e.symm
                          simp only [emitF, markOf, touch_mp, touch_imp, touch_nmp, ne_eq, not_true_eq_false, and_false, false_and, not_false_eq_true, nb4_b3, nb3_b4, nb14_b3, nb3_b14, nb14_b4, nb4_b14, zl, List.length_map, e1, e2, e4, z1, hff, RR, seval]
                          refine hK _ _ ?_; clear hK K
                          refine awp_seq_k fun K hK => ?_
                          refine awp_region rfl ?_
                          simp only [nb4_b3, nb3_b4, nb14_b3, nb3_b14, nb14_b4, nb4_b14, zl, List.length_map, e1, e2, e4, z1, hff, RR, seval]
                          refine awpC_pure' (q4) ?_
                          simp only [nb4_b3, nb3_b4, nb14_b3, nb3_b14, nb14_b4, nb4_b14, zl, List.length_map, e1, e2, e4, z1, hff, RR, seval]
                          refine awpC_pure' (c4) ?_
                          simp only [nb4_b3, nb3_b4, nb14_b3, nb3_b14, nb14_b4, nb4_b14, zl, List.length_map, e1, e2, e4, z1, hff, RR, seval]
                          refine hK _ _ ?_; clear hK K
                          refine awp_seq_k fun K hK => ?_
                          refine awp_region rfl ?_
                          simp only [nb4_b3, nb3_b4, nb14_b3, nb3_b14, nb14_b4, nb4_b14, zl, List.length_map, e1, e2, e4, z1, hff, RR, seval]
                          refine awpC_pure' (q5) ?_
                          simp only [nb4_b3, nb3_b4, nb14_b3, nb3_b14, nb14_b4, nb4_b14, zl, List.length_map, e1, e2, e4, z1, hff, RR, seval]
                          refine awpC_pure' (c5) ?_
                          simp only [nb4_b3, nb3_b4, nb14_b3, nb3_b14, nb14_b4, nb4_b14, zl, List.length_map, e1, e2, e4, z1, hff, RR, seval]
                          refine hK _ _ ?_; clear hK K
                          refine awp_ret ?_; simp only [bodyQ, aresult, ares, nb4_b3, nb3_b4, nb14_b3, nb3_b14, nb14_b4, nb4_b14, zl, List.length_map, e1, e2, e4, z1, hff, RR, seval]
                          refine Gives.pure ?_
                          rfl
              · try (cases hc7; done)
                all_goals
                  refine awp_skip ?_; try simp only [RR]
                  refine awp_seq_k fun K hK => ?_
                  refine awp_region rfl ?_
                  simp only [nb4_b3, nb3_b4, zl, List.length_map, e1, e2, e4, z1, hff, RR, seval]
                  refine awpB_sealed ?_
                  simp only [nb4_b3, nb3_b4, zl, List.length_map, e1, e2, e4, z1, hff, RR, seval]
                  refine hK _ _ ?_; clear hK K
                  refine awp_seq_k fun K hK => ?_
                  refine awp_region rfl ?_
                  simp only [nb4_b3, nb3_b4, zl, List.length_map, e1, e2, e4, z1, hff, RR, seval]
                  refine awpC_pure' (q1) ?_
                  simp only [nb4_b3, nb3_b4, zl, List.length_map, e1, e2, e4, z1, hff, RR, seval]
                  refine awpC_pure' (c1) ?_
                  simp only [nb4_b3, nb3_b4, zl, List.length_map, e1, e2, e4, z1, hff, RR, seval]
                  refine hK _ _ ?_; clear hK K
                  refine awp_seq_k fun K hK => ?_
                  refine awp_region rfl ?_
                  simp only [nb4_b3, nb3_b4, zl, List.length_map, e1, e2, e4, z1, hff, RR, seval]
                  refine awpC_pure' (q2) ?_
                  simp only [nb4_b3, nb3_b4, zl, List.length_map, e1, e2, e4, z1, hff, RR, seval]
                  refine awpC_pure' (c2) ?_
                  simp only [nb4_b3, nb3_b4, zl, List.length_map, e1, e2, e4, z1, hff, RR, seval]
                  refine hK _ _ ?_; clear hK K
                  refine awp_seq_k fun K hK => ?_
                  refine awp_region rfl ?_
                  simp only [nb4_b3, nb3_b4, zl, List.length_map, e1, e2, e4, z1, hff, RR, seval]
                  refine awpC_pure' (q3) ?_
                  simp only [nb4_b3, nb3_b4, zl, List.length_map, e1, e2, e4, z1, hff, RR, seval]
                  refine awpC_pure' (c3) ?_
                  simp only [nb4_b3, nb3_b4, zl, List.length_map, e1, e2, e4, z1, hff, RR, seval]
                  refine hK _ _ ?_; clear hK K
                  refine awp_seq ?_
                  refine awp_seq_k fun K hK => ?_
                  refine awp_region rfl ?_
                  simp only [nb4_b3, nb3_b4, zl, List.length_map, e1, e2, e4, z1, hff, RR, seval]
                  refine hK _ _ ?_; clear hK K
                  refine awp_if _ rfl (fun hc13 => ?_) (fun hc13 => ?_)
                  · try (cases hc13; done)
                    all_goals
                      refine awp_seq_k fun K hK => ?_
                      refine awp_region rfl ?_
                      simp only [nb4_b3, nb3_b4, zl, List.length_map, e1, e2, e4, z1, hff, RR, seval]
                      refine hK _ _ ?_; clear hK K
                      refine awp_ret ?_; simp only [bodyQ, aresult, ares, nb4_b3, nb3_b4, zl, List.length_map, e1, e2, e4, z1, hff, RR, seval]
                      refine Gives.pure ?_
                      rfl
                  · try (cases hc13; done)
                    all_goals
                      refine awp_skip ?_; try simp only [RR]
                      refine awp_seq ?_
                      refine awp_seq_k fun K hK => ?_
                      refine awp_region rfl ?_
                      simp only [nb4_b3, nb3_b4, zl, List.length_map, e1, e2, e4, z1, hff, RR, seval]
                      refine hK _ _ ?_; clear hK K
                      refine awp_if _ rfl (fun hc15 => ?_) (fun hc15 => ?_)
                      · try (cases hc15; done)
                        all_goals
                          refine awp_seq_k fun K hK => ?_
                          refine awp_region rfl ?_
                          simp only [nb4_b3, nb3_b4, zl, List.length_map, e1, e2, e4, z1, hff, RR, seval]
                          refine hK _ _ ?_; clear hK K
                          refine awp_ret ?_; simp only [bodyQ, aresult, ares, nb4_b3, nb3_b4, zl, List.length_map, e1, e2, e4, z1, hff, RR, seval]
                          refine Gives.pure ?_
                          rfl
                      · try (cases hc15; done)
                        all_goals
                          refine awp_skip ?_; try simp only [RR]
                          refine awp_seq_k fun K hK => ?_
                          refine awp_region_draw2 (fun x => x ≠ b3 ∧ x ≠ b4) [(0, 3), (1, 0), (2, 3), (3, 3), (4, 3), (5, 0), (6, 3), (7, 3), (8, 3), (9, 0), (10, 1)] [(11, 1)] draws (by kernel_rfl) rfl rfl ?_
                          simp only [emitF, markOf, touch_mp, touch_imp, touch_nmp, ne_eq, not_true_eq_false, and_false, false_and, not_false_eq_true, nb4_b3, nb3_b4, zl, List.length_map, e1, e2, e4, z1, hff, RR, seval]
                          refine awpN_intro fun b14 hn14 => ?_
                          have nb14_b3 : b14 ≠ b3 := fun e => by rw [e] at hn14; simp only [nb4_b3, nb3_b4, zl, List.length_map, e1, e2, e4, z1, hff, RR, seval, reduceCtorEq] at hn14
                          have nb3_b14 : b3 ≠ b14 := fun e => nb14_b3 e.symm
                          have nb14_b4 : b14 ≠ b4 := fun e => by rw [e] at hn14; simp only [nb4_b3, nb3_b4, zl, List.length_map, e1, e2, e4, z1, hff, RR, seval, reduceCtorEq] at hn14
                          have nb4_b14 : b4 ≠ b14 := fun e => nb14_b4 e.symm
                          simp only [emitF, markOf, touch_mp, touch_imp, touch_nmp, ne_eq, not_true_eq_false, and_false, false_and, not_false_eq_true, nb4_b3, nb3_b4, nb14_b3, nb3_b14, nb14_b4, nb4_b14, zl, List.length_map, e1, e2, e4, z1, hff, RR, seval]
                          refine hK _ _ ?_; clear hK K
                          refine awp_seq_k fun K hK => ?_
                          refine awp_region rfl ?_
                          simp only [nb4_b3, nb3_b4, nb14_b3, nb3_b14, nb14_b4, nb4_b14, zl, List.length_map, e1, e2, e4, z1, hff, RR, seval]
                          refine awpC_pure' (q4) ?_
                          simp only [nb4_b3, nb3_b4, nb14_b3, nb3_b14, nb14_b4, nb4_b14, zl, List.length_map, e1, e2, e4, z1, hff, RR, seval]
                          refine awpC_pure' (c4) ?_
                          simp only [nb4_b3, nb3_b4, nb14_b3, nb3_b14, nb14_b4, nb4_b14, zl, List.length_map, e1, e2, e4, z1, hff, RR, seval]
                          refine hK _ _ ?_; clear hK K
                          refine awp_seq_k fun K hK => ?_
                          refine awp_region rfl ?_
                          simp only [nb4_b3, nb3_b4, nb14_b3, nb3_b14, nb14_b4, nb4_b14, zl, List.length_map, e1, e2, e4, z1, hff, RR, seval]
                          refine awpC_pure' (q5) ?_
                          simp only [nb4_b3, nb3_b4, nb14_b3, nb3_b14, nb14_b4, nb4_b14, zl, List.length_map, e1, e2, e4, z1, hff, RR, seval]
                          refine awpC_pure' (c5) ?_
                          simp only [nb4_b3, nb3_b4, nb14_b3, nb3_b14, nb14_b4, nb4_b14, zl, List.length_map, e1, e2, e4, z1, hff, RR, seval]
                          refine hK _ _ ?_; clear hK K
                          refine awp_ret ?_; simp only [bodyQ, aresult, ares, nb4_b3, nb3_b4, nb14_b3, nb3_b14, nb14_b4, nb4_b14, zl, List.length_map, e1, e2, e4, z1, hff, RR, seval]
                          refine Gives.pure ?_
                          rfl
    · rw [hav, hrow] at hF ⊢
      rw [e.row_eq] at *
      refine con_of 129 [.tmp 6] Tryd.func7 rfl rfl rfl rfl ?_
      refine awp_seq_k fun K hK => ?_
      refine awp_region rfl ?_
      simp only [zl, RR, seval]
      refine awpN_intro fun b3 hn3 => ?_
      simp only [zl, RR, seval]
      refine awpN_intro fun b4 hn4 => ?_
      have nb4_b3 : b4 ≠ b3 := fun e => by rw [e] at hn4; simp only [zl, RR, seval, reduceCtorEq] at hn4
      have nb3_b4 : b3 ≠ b4 := fun e => nb4_b3 e.symm
      simp only [nb4_b3, nb3_b4, zl, RR, seval]
      refine hK _ _ ?_; clear hK K
      refine awp_seq ?_
      refine awp_seq_k fun K hK => ?_
      refine awp_region rfl ?_
      simp only [nb4_b3, nb3_b4, zl, RR, seval]
      refine awpC_pure' (awake_con) ?_
      simp only [nb4_b3, nb3_b4, zl, RR, seval]
      refine hK _ _ ?_; clear hK K
      refine awp_if false rfl (fun hc => by cases hc) (fun _ => ?_)
      refine awp_skip ?_; try simp only [RR]
      refine awp_seq ?_
      refine awp_seq_k fun K hK => ?_
      refine awp_region rfl ?_
      simp only [nb4_b3, nb3_b4, zl, RR, seval]
      all_goals try (refine awpC_pure' (hF) ?_; simp only [nb4_b3, nb3_b4, zl, RR, seval])
      all_goals try ((first | refine awpG_splitN (fun h => ?_) (fun h => ?_) | refine awpG_split (fun h => ?_) (fun h => ?_)) <;> simp only [h, nb4_b3, nb3_b4, zl, RR, seval])
      all_goals try (refine awpB_sealed ?_; simp only [nb4_b3, nb3_b4, zl, RR, seval])
      all_goals try (refine awpC_pure' (hL) ?_; simp only [nb4_b3, nb3_b4, zl, RR, seval])
      all_goals try ((first | refine awpG_splitN (fun h => ?_) (fun h => ?_) | refine awpG_split (fun h => ?_) (fun h => ?_)) <;> simp only [h, nb4_b3, nb3_b4, zl, RR, seval])
      all_goals try ((first | refine awpG_splitN (fun h => ?_) (fun h => ?_) | refine awpG_split (fun h => ?_) (fun h => ?_)) <;> simp only [h, nb4_b3, nb3_b4, zl, RR, seval])
      all_goals
        refine hK _ _ ?_; clear hK K
        refine awp_if true rfl (fun _ => ?_) (fun hc => by cases hc)
        refine awp_seq_k fun K hK => ?_
        refine awp_region rfl ?_
        simp only [nb4_b3, nb3_b4, zl, RR, seval]
        refine hK _ _ ?_; clear hK K
        refine awp_ret ?_; simp only [bodyQ, aresult, ares, nb4_b3, nb3_b4, zl, RR, seval]
        refine Gives.pure ?_
        rfl
end Go.Proofs.YtefjogkgeelbdaaDoor
