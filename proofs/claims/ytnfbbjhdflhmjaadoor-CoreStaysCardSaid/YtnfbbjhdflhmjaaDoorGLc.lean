/- Chapter 19: how great a core is (the program's); how many gets there are (the law's). -/
import Derived.Test.YtnfbbjhdflhmjaaDoorCx
import Derived.Test.YtnfbbjhdflhmjaaDoorGLb
set_option linter.unusedSimpArgs false
set_option linter.unusedVariables false
set_option maxRecDepth 10000
namespace Go.Al
theorem szCE_take {l : List CE} {k : Nat} {e : CE} (h : l[k]? = some e) : szCE (l.take (k + 1)) = szCE (l.take k) + (1 + szCE e.kids) := by
 induction l generalizing k with
 | nil => simp at h
 | cons x l ih =>
   cases k with
   | zero =>
     simp only [List.getElem?_cons_zero, Option.some.injEq] at h
     subst h
     simp only [List.take_succ_cons, List.take_zero, szCE, x.sz_eq]; omega
   | succ k =>
     simp only [List.getElem?_cons_succ] at h
     simp only [List.take_succ_cons, szCE, ih h]; omega
theorem szCS_take {l : List CS} {k : Nat} {e : CS} (h : l[k]? = some e) : szCS (l.take (k + 1)) = szCS (l.take k) + (1 + szCE e.es + szCS e.thn + szCS e.els) := by
 induction l generalizing k with
 | nil => simp at h
 | cons x l ih =>
   cases k with
   | zero =>
     simp only [List.getElem?_cons_zero, Option.some.injEq] at h
     subst h
     simp only [List.take_succ_cons, List.take_zero, szCS, x.sz_eq]; omega
   | succ k =>
     simp only [List.getElem?_cons_succ] at h
     simp only [List.take_succ_cons, szCS, ih h]; omega
theorem szCE_le (l : List CE) (k : Nat) : szCE (l.take k) ≤ szCE l := by
 induction l generalizing k with
 | nil => simp
 | cons x l ih => cases k with
   | zero => simp [szCE]
   | succ k => simp only [List.take_succ_cons, szCE]; have := ih k; omega
theorem szCS_le (l : List CS) (k : Nat) : szCS (l.take k) ≤ szCS l := by
 induction l generalizing k with
 | nil => simp
 | cons x l ih => cases k with
   | zero => simp [szCS]
   | succ k => simp only [List.take_succ_cons, szCS]; have := ih k; omega
theorem lenCE_le (l : List CE) : l.length ≤ szCE l := szCE_len l
end Go.Al
namespace Go.Proofs.YtnfbbjhdflhmjaaDoor
open Go.Al
theorem exprsSize_con (n : Nat) : ∀ l : List CE, szCE l ≤ n → n ≤ 1000000000 → PCon env 47 [.isl 6 (l.map CE.row)] (.int .i64 (szCE l : Nat)) := by
 induction n using Nat.strongRecOn with
 | _ n ih =>
   intro l hn hb
   have hl := szCE_len l
   refine con_of 21 [.tmp 2] Tryd.func47 rfl rfl rfl rfl ?_
   refine awp_seq_k fun K hK => ?_
   refine awp_region rfl ?_
   simp only [RR, seval]
   refine hK _ _ ?_; clear hK K
   refine awp_seq_k fun K hK => ?_
   refine awp_region rfl ?_
   simp only [List.length_map, RR, seval]
   refine hK _ _ ?_; clear hK K
   refine awp_seq ?_
   refine awp_seq_k fun K hK => ?_
   refine awp_region rfl ?_
   simp only [List.length_map, RR, seval]
   refine hK _ _ ?_; clear hK K
   refine awp_name fun F1 M1 hfr hH => ?_
   have g2 := hfr 2
   have g3 := hfr 3
   have g8 := hfr 8
   have g9 := hfr 9
   have g10 := hfr 10
   try simp only [RR, seval] at g2 g3 g8 g9 g10
   have f2 := g2; clear g2
   have f3 := g3; clear g3
   have f8 := g8; clear g8
   have f9 := g9; clear g9
   have f10 := g10; clear g10
   clear hfr hH
   refine awp_block ?_
   refine awp_each [2, 8, 9] (l.length) (fun k fr M => fr 10 = .int .i64 (k : Nat) ∧ ∃ x : Nat, fr 3 = .int .i64 (x : Nat) ∧ x + k = l.length + szCE (l.take k)) ⟨f10, l.length, f3, by simp [szCE]⟩ ?_
   rintro k F2 M2 hk0 ⟨fx, ⟨x, f3, hx⟩⟩ agx K0 hK0
   have f2 := (agx 2 rfl).trans f2
   have f8 := (agx 8 rfl).trans f8
   have f9 := (agx 9 rfl).trans f9
   have f10 := fx; clear fx
   have ag0 := agree.refl [2, 8, 9] F2
   clear agx
   refine awp_seq_k fun K hK => ?_
   refine awp_region rfl ?_
   simp only [f9, f10, RR, seval]
   refine hK _ _ ?_; clear hK K
   refine awp_seq ?_
   refine awp_if _ rfl (fun hc => ?_) (fun hc => ?_)
   ·have hlt0 : k < l.length := by have := of_decide_eq_true hc; omega
    clear hc
    have hg0 := List.getElem?_eq_getElem hlt0
    have hm := szCE_mem (List.getElem_mem hlt0)
    have hle := szCE_le l (k + 1)
    have ht := szCE_take hg0
    have hs := (l[k]).sz_eq
    have hkd := ih (szCE (l[k]).kids) (by omega) (l[k]).kids (Nat.le_refl _) (by omega)
    have hg := getCE hg0
    generalize l[k] = e at hg0 hm ht hs hkd hg
    have z1 : IntKind.wrap .i64 ((x : Int) + (szCE e.kids : Nat)) = ((x + szCE e.kids : Nat) : Int) := by rw [IntWalk.i64_in _ (by omega)]; omega
    refine awp_skip ?_; try simp only [RR]
    refine awp_seq ?_
    refine awp_block ?_
    refine awp_seq_k fun K hK => ?_
    refine awp_region rfl ?_
    simp only [f8, f10, hg, RR, seval]
    refine awpN_intro fun b5 hn5 => ?_
    simp only [RR, seval]
    refine hK _ _ ?_; clear hK K
    refine awp_region rfl ?_
    simp only [f3, RR, seval]
    refine awpC_pure' (hkd) ?_
    simp only [z1, RR, seval]
    refine awp_region rfl ?_
    simp only [f10, RR, seval]
    try rw [IntWalk.i64_in _ (by omega)]
    refine hK0 _ _ hlt0 ⟨by first | rfl | (simp only [upd_app, seval]; rfl), x + szCE e.kids, rfl, by omega⟩ (by repeat (first | exact ag0 | refine agree.upd rfl ?_))
   ·have hkn0 : k = l.length := by have := of_decide_eq_false hc; omega
    clear hc
    rw [hkn0, List.take_length] at hx
    have hx : x = szCE l := by omega
    subst hx
    refine awp_exit ?_; simp only [RR, seval]
    refine awp_seq_k fun K hK => ?_
    refine awp_region rfl ?_
    simp only [f3, RR, seval]
    refine hK _ _ ?_; clear hK K
    refine awp_ret ?_; simp only [bodyQ, aresult, ares, RR, seval]
    refine Gives.pure ?_
    rfl
theorem stmtsSize_con (n : Nat) : ∀ l : List CS, szCS l ≤ n → n ≤ 1000000000 → PCon env 32 [.isl 6 (l.map CS.row)] (.int .i64 (szCS l : Nat)) := by
 induction n using Nat.strongRecOn with
 | _ n ih =>
   intro l hn hb
   have hl := szCS_len l
   refine con_of 29 [.tmp 2] Tryd.func32 rfl rfl rfl rfl ?_
   refine awp_seq_k fun K hK => ?_
   refine awp_region rfl ?_
   simp only [RR, seval]
   refine hK _ _ ?_; clear hK K
   refine awp_seq_k fun K hK => ?_
   refine awp_region rfl ?_
   simp only [List.length_map, RR, seval]
   refine hK _ _ ?_; clear hK K
   refine awp_seq ?_
   refine awp_seq_k fun K hK => ?_
   refine awp_region rfl ?_
   simp only [List.length_map, RR, seval]
   refine hK _ _ ?_; clear hK K
   refine awp_name fun F1 M1 hfr hH => ?_
   have g2 := hfr 2
   have g3 := hfr 3
   have g8 := hfr 8
   have g9 := hfr 9
   have g10 := hfr 10
   try simp only [RR, seval] at g2 g3 g8 g9 g10
   have f2 := g2; clear g2
   have f3 := g3; clear g3
   have f8 := g8; clear g8
   have f9 := g9; clear g9
   have f10 := g10; clear g10
   clear hfr hH
   refine awp_block ?_
   refine awp_each [2, 8, 9] (l.length) (fun k fr M => fr 10 = .int .i64 (k : Nat) ∧ ∃ x : Nat, fr 3 = .int .i64 (x : Nat) ∧ x + k = l.length + szCS (l.take k)) ⟨f10, l.length, f3, by simp [szCS]⟩ ?_
   rintro k F2 M2 hk0 ⟨fx, ⟨x, f3, hx⟩⟩ agx K0 hK0
   have f2 := (agx 2 rfl).trans f2
   have f8 := (agx 8 rfl).trans f8
   have f9 := (agx 9 rfl).trans f9
   have f10 := fx; clear fx
   have ag0 := agree.refl [2, 8, 9] F2
   clear agx
   refine awp_seq_k fun K hK => ?_
   refine awp_region rfl ?_
   simp only [f9, f10, RR, seval]
   refine hK _ _ ?_; clear hK K
   refine awp_seq ?_
   refine awp_if _ rfl (fun hc => ?_) (fun hc => ?_)
   ·have hlt0 : k < l.length := by have := of_decide_eq_true hc; omega
    clear hc
    have hg0 := List.getElem?_eq_getElem hlt0
    have hm := szCS_mem (List.getElem_mem hlt0)
    have hle := szCS_le l (k + 1)
    have ht := szCS_take hg0
    have hs := (l[k]).sz_eq
    have c1 := exprsSize_con (szCE (l[k]).es) (l[k]).es (Nat.le_refl _) (by omega)
    have c2 := ih (szCS (l[k]).thn) (by omega) (l[k]).thn (Nat.le_refl _) (by omega)
    have c3 := ih (szCS (l[k]).els) (by omega) (l[k]).els (Nat.le_refl _) (by omega)
    have hg := getCS hg0
    generalize l[k] = e at hg0 hm ht hs c1 c2 c3 hg
    have z1 : IntKind.wrap .i64 ((szCE e.es : Nat) + (szCS e.thn : Nat) : Int) = ((szCE e.es + szCS e.thn : Nat) : Int) := by rw [IntWalk.i64_in _ (by omega)]; omega
    have z2 : IntKind.wrap .i64 (((szCE e.es + szCS e.thn : Nat) : Int) + (szCS e.els : Nat)) = ((szCE e.es + szCS e.thn + szCS e.els : Nat) : Int) := by rw [IntWalk.i64_in _ (by omega)]; omega
    have z3 : IntKind.wrap .i64 ((x : Int) + ((szCE e.es + szCS e.thn + szCS e.els : Nat) : Int)) = ((x + (szCE e.es + szCS e.thn + szCS e.els) : Nat) : Int) := by rw [IntWalk.i64_in _ (by omega)]; omega
    refine awp_skip ?_; try simp only [RR]
    refine awp_seq ?_
    refine awp_block ?_
    refine awp_seq_k fun K hK => ?_
    refine awp_region rfl ?_
    simp only [f8, f10, hg, RR, seval]
    refine awpN_intro fun b5 hn5 => ?_
    simp only [RR, seval]
    refine hK _ _ ?_; clear hK K
    refine awp_region_draw2 (fun x => x ≠ b5) [(0, 3), (1, 3), (2, 1), (4, 3), (5, 0), (8, 3), (9, 0), (3, 1), (6, 1), (7, 3), (10, 1), (11, 3), (12, 3), (13, 3)] [] draws (by kernel_rfl) rfl rfl ?_
    simp only [emitF, markOf, f3, RR, seval]
    refine awpC_pure' (c1) ?_
    simp only [RR, seval]
    refine awpC_pure' (c2) ?_
    simp only [z1, RR, seval]
    refine awpC_pure' (c3) ?_
    simp only [z2, z3, RR, seval]
    refine awp_region rfl ?_
    simp only [f10, RR, seval]
    try rw [IntWalk.i64_in _ (by omega)]
    refine hK0 _ _ hlt0 ⟨by first | rfl | (simp only [upd_app, seval]; rfl), x + (szCE e.es + szCS e.thn + szCS e.els), rfl, by omega⟩ (by repeat (first | exact ag0 | refine agree.upd rfl ?_))
   ·have hkn0 : k = l.length := by have := of_decide_eq_false hc; omega
    clear hc
    rw [hkn0, List.take_length] at hx
    have hx : x = szCS l := by omega
    subst hx
    refine awp_exit ?_; simp only [RR, seval]
    refine awp_seq_k fun K hK => ?_
    refine awp_region rfl ?_
    simp only [f3, RR, seval]
    refine hK _ _ ?_; clear hK K
    refine awp_ret ?_; simp only [bodyQ, aresult, ares, RR, seval]
    refine Gives.pure ?_
    rfl
end Go.Proofs.YtnfbbjhdflhmjaaDoor
