/- Chapter 17, the program's: the rules for a program. Chapter 17, the program's: what is known; types. Chapter 17, the program's: types of expressions. Chapter 17, the program's: statements. Chapter 17, the program's: which statements are right. Chapter 17, the program's: Expr, Check, Sound. Chapter 17: the law's own examples; its guards. -/
import Derived.Test.YtnfbbjhdflhmjaaDoorT1
import Derived.Test.YtnfbbjhdflhmjaaDoorSy3
import Derived.Test.YtnfbbjhdflhmjaaDoorSc2
import Derived.Test.YtnfbbjhdflhmjaaDoorSy2
import Derived.Test.YtnfbbjhdflhmjaaDoorSy1
set_option linter.unusedSimpArgs false
set_option linter.unusedVariables false
set_option maxRecDepth 10000
namespace Go.Al
def addFu (m : List Fu) (f : Fu) : List Fu := if (m.find? fun g => decide (g.name = f.name)).isSome then m else m ++ [f]
def firsts (l : List Fu) : List Fu := l.foldl addFu []
theorem firsts_app (l : List Fu) (f : Fu) : firsts (l ++ [f]) = addFu (firsts l) f := by simp [firsts]
theorem find_fold (s : Str) : ∀ (l m : List Fu), (l.foldl addFu m).find? (fun g => decide (g.name = s)) = (m ++ l).find? (fun g => decide (g.name = s))
 | [], m => by simp
 | f :: l, m => by
   rw [List.foldl_cons, find_fold s l]
   unfold addFu
   split
   ·rename_i h
    rw [List.find?_append, List.find?_append, List.find?_cons]
    cases hm : m.find? fun g => decide (g.name = s) with
    | some x => rfl
    | none =>
      have hne : decide (f.name = s) = false := by
       refine decide_eq_false fun e => ?_
       rw [e, hm] at h
       cases h
      rw [hne]
   ·rw [List.append_assoc, List.singleton_append]
theorem find_firsts (s : Str) (l : List Fu) : (firsts l).find? (fun g => decide (g.name = s)) = l.find? (fun g => decide (g.name = s)) := by
 rw [firsts, find_fold, List.nil_append]
def entF (f : Fu) : AV × AV := (.str f.name, .agg [.str f.name, .isl 1 (f.params.map strRow), .isl 1 (f.locs.map strRow), .bool f.word, .isl 5 (f.body.map Sm.row)])
theorem afind_fu (s : Str) : ∀ (m : List Fu) (i : Nat), (m.find? (fun g => decide (g.name = s)) = none ∧ afind (.str s) (m.map entF) i = some none) ∨
  (∃ j g, m.find? (fun g => decide (g.name = s)) = some g ∧ afind (.str s) (m.map entF) i = some (some (j, .agg [.str g.name, .isl 1 (g.params.map strRow), .isl 1 (g.locs.map strRow), .bool g.word, .isl 5 (g.body.map Sm.row)])))
 | [], i => .inl ⟨rfl, rfl⟩
 | t :: m, i => by
   simp only [List.map_cons, afind, akey, entF, List.find?_cons]
   by_cases h : t.name = s
   ·right
    refine ⟨i, t, by rw [decide_eq_true h], ?_⟩
    rw [decide_eq_true h.symm]
   ·rw [decide_eq_false h, decide_eq_false (fun e => h e.symm)]
    exact afind_fu s m (i + 1)
def imF (p : Pg) : AV := .imp (((firsts p.funs).map entF).map (·.1)) (((firsts p.funs).map entF).map (·.2))
end Go.Al
namespace Go.Proofs.YtnfbbjhdflhmjaaDoor
open Go.Al
def rulesR (p : Pg) (b : Nat) : List AV := [imF p, .nfn, .fn (.func 90) [] [], .fn (.func 90) [] [], .fn (.func 92) [.ptr 11 b 0 0] [], .fn (.func 93) [.ptr 11 b 0 0] [],
 .fn (.func 90) [] [], .fn (.func 94) [.ptr 11 b 0 0] [], .fn (.func 91) [.ptr 11 b 0 0] [], .fn (.func 91) [.ptr 11 b 0 0] [], .fn (.func 91) [.ptr 11 b 0 0] []]
set_option maxHeartbeats 2000000 in
theorem rulesOf_con (p : Pg) (hp : fitL p.funs) : Con env 74 [p.av] emp (fun ae H' => ∃ v, ae = .ret v ∧ ∃ b, v = .ptr 11 b 0 0 ∧ H' = H1 b (.rows 11 [rulesR p b])) := by
 have hR := rulesR
 unfold rulesR imF
 obtain ⟨vs, aa, fs⟩ := p
 simp only [Pg.av, Pg.row, fitL] at *
 clear hR
 refine con_of 91 [.tmp 2] Tryd.func74 rfl rfl rfl rfl ?_
 refine awp_seq_k fun K hK => ?_
 refine awp_region rfl ?_
 simp only [RR, seval]
 refine awpN_intro fun b1 hn1 => ?_
 simp only [RR, seval]
 refine hK _ _ ?_; clear hK K
 refine awp_seq_k fun K hK => ?_
 refine awp_region rfl ?_
 simp only [RR, seval]
 refine awpN_intro fun b10 hn10 => ?_
 have nb10_b1 : b10 ≠ b1 := fun e => by rw [e] at hn10; simp only [RR, seval, reduceCtorEq] at hn10
 have nb1_b10 : b1 ≠ b10 := fun e => nb10_b1 e.symm
 simp only [RR, seval]
 refine awpN_intro fun b12 hn12 => ?_
 have nb12_b1 : b12 ≠ b1 := fun e => by rw [e] at hn12; simp only [nb1_b10, RR, seval, reduceCtorEq] at hn12
 have nb1_b12 : b1 ≠ b12 := fun e => nb12_b1 e.symm
 have nb12_b10 : b12 ≠ b10 := fun e => by rw [e] at hn12; simp only [RR, seval, reduceCtorEq] at hn12
 have nb10_b12 : b10 ≠ b12 := fun e => nb12_b10 e.symm
 simp only [RR, seval]
 refine hK _ _ ?_; clear hK K
 refine awp_seq ?_
 refine awp_seq_k fun K hK => ?_
 refine awp_region rfl ?_
 simp only [nb1_b10, nb1_b12, List.length_map, RR, seval]
 refine hK _ _ ?_; clear hK K
 refine awp_name fun F1 M1 hfr hH => ?_
 have g2 := hfr 2
 have g3 := hfr 3
 have g14 := hfr 14
 have g15 := hfr 15
 have g16 := hfr 16
 have gb1 := hH b1
 have gb10 := hH b10
 have gb12 := hH b12
 try simp only [nb1_b10, nb1_b12, nb10_b12, RR, seval] at g2 g3 g14 g15 g16 gb1 gb10 gb12
 have f2 := g2; clear g2
 have f3 := g3; clear g3
 have f14 := g14; clear g14
 have f15 := g15; clear g15
 have f16 := g16; clear g16
 have hb1 := gb1; clear gb1
 have hb10 := gb10; clear gb10
 have hb12 := gb12; clear gb12
 clear hfr hH
 refine awp_block ?_
 refine awp_each [2, 3, 14, 15] (fs.length) (fun k fr M => fr 16 = .int .i64 (k : Nat) ∧ M b1 = M1 b1 ∧ M b12 = M1 b12 ∧ M b10 = some (.amap ((firsts (fs.take k)).map entF))) ⟨f16, rfl, rfl, by rw [hb10]; rfl⟩ ?_
 rintro k F2 M2 hk0 ⟨fx, gb1, gb12, hb10⟩ agx K0 hK0
 have f2 := (agx 2 rfl).trans f2
 have f3 := (agx 3 rfl).trans f3
 have f14 := (agx 14 rfl).trans f14
 have f15 := (agx 15 rfl).trans f15
 have f16 := fx; clear fx
 have hb1 := gb1.trans hb1
 have hb12 := gb12.trans hb12
 have ag0 := agree.refl [2, 3, 14, 15] F2
 have e0_b1 := gb1; clear gb1
 have e0_b12 := gb12; clear gb12
 clear agx
 refine awp_seq_k fun K hK => ?_
 refine awp_region rfl ?_
 simp only [f15, f16, RR, seval]
 refine hK _ _ ?_; clear hK K
 refine awp_seq ?_
 refine awp_if _ rfl (fun hc => ?_) (fun hc => ?_)
 ·have hlt0 : k < fs.length := by have := of_decide_eq_true hc; omega
  clear hc
  have hg := getF (List.getElem?_eq_getElem hlt0)
  have htk : fs.take (k + 1) = fs.take k ++ [fs[k]] := List.take_succ_eq_append_getElem hlt0
  generalize fs[k] = f at hg htk
  have hst : firsts (fs.take (k + 1)) = addFu (firsts (fs.take k)) f := by rw [htk, firsts_app]
  have hfi := afind_fu f.name (firsts (fs.take k)) 0
  unfold addFu at hst
  generalize firsts (fs.take k) = m at *
  rcases hfi with ⟨hl, hr⟩ | ⟨j, g, hl, hr⟩
  all_goals
   refine awp_skip ?_; try simp only [RR]
   refine awp_seq ?_
   refine awp_block ?_
   refine awp_seq_k fun K hK => ?_
   refine awp_region rfl ?_
   simp only [f14, f16, hg, RR, seval]
   refine awpN_intro fun b5 hn5 => ?_
   have nb5_b1 : b5 ≠ b1 := fun e => by rw [e] at hn5; simp only [hb1, seval, reduceCtorEq] at hn5
   have nb1_b5 : b1 ≠ b5 := fun e => nb5_b1 e.symm
   have nb5_b12 : b5 ≠ b12 := fun e => by rw [e] at hn5; simp only [hb12, seval, reduceCtorEq] at hn5
   have nb12_b5 : b12 ≠ b5 := fun e => nb5_b12 e.symm
   have nb5_b10 : b5 ≠ b10 := fun e => by rw [e] at hn5; simp only [hb10, seval, reduceCtorEq] at hn5
   have nb10_b5 : b10 ≠ b5 := fun e => nb5_b10 e.symm
   simp only [RR, seval]
   refine hK _ _ ?_; clear hK K
   refine awp_seq_k fun K hK => ?_
   refine awp_region_draw2 (fun x => x ≠ b1 ∧ x ≠ b12 ∧ x ≠ b10 ∧ x ≠ b5) [(0, 3), (1, 3), (2, 3), (3, 0), (4, 3), (5, 0), (6, 0), (7, 3), (8, 3), (9, 3), (10, 1)] [(11, 1), (12, 3)] draws (by kernel_rfl) rfl rfl ?_
   simp only [emitF, markOf, EM, f3, hb12, hb10, nb10_b1, nb12_b1, nb12_b10, nb10_b12, nb5_b1, nb5_b12, nb12_b5, nb5_b10, nb10_b5, hr, Option.getD_some, Option.getD_none, Option.isSome_none, Option.isSome_some, RR, seval]
   refine awpN_intro fun b6 hn6 => ?_
   have nb6_b1 : b6 ≠ b1 := fun e => by rw [e] at hn6; simp only [hb1, nb1_b5, RR, seval, reduceCtorEq] at hn6
   have nb1_b6 : b1 ≠ b6 := fun e => nb6_b1 e.symm
   have nb6_b12 : b6 ≠ b12 := fun e => by rw [e] at hn6; simp only [hb12, nb12_b5, RR, seval, reduceCtorEq] at hn6
   have nb12_b6 : b12 ≠ b6 := fun e => nb6_b12 e.symm
   have nb6_b10 : b6 ≠ b10 := fun e => by rw [e] at hn6; simp only [hb10, nb10_b5, RR, seval, reduceCtorEq] at hn6
   have nb10_b6 : b10 ≠ b6 := fun e => nb6_b10 e.symm
   have nb6_b5 : b6 ≠ b5 := fun e => by rw [e] at hn6; simp only [RR, seval, reduceCtorEq] at hn6
   have nb5_b6 : b5 ≠ b6 := fun e => nb6_b5 e.symm
   simp only [RR, seval]
   refine hK _ _ ?_; clear hK K
   refine awp_seq_k fun K hK => ?_
   refine awp_region rfl ?_
   simp only [RR, seval]
   refine hK _ _ ?_; clear hK K
   refine awp_if _ rfl (fun hc6 => ?_) (fun hc6 => ?_)
   ·try (cases hc6; done)
    all_goals
     refine awp_region_draw2 (fun x => x ≠ b1 ∧ x ≠ b12 ∧ x ≠ b10 ∧ x ≠ b5 ∧ x ≠ b6) [(0, 3), (1, 3), (2, 3), (3, 1), (4, 3), (5, 1), (6, 1)] [(7, 1)] draws (by kernel_rfl) rfl rfl ?_
     simp only [emitF, f3, hb12, hb10, nb12_b5, nb10_b5, nb12_b6, nb10_b6, nb5_b6, hr, aput, RR, seval]
     refine awp_region rfl ?_
     simp only [f16, RR, seval]
     try rw [IntWalk.i64_in _ (by omega)]
     refine hK0 _ _ hlt0 ⟨by first | rfl | (simp only [upd_app, seval]; rfl), (by first | exact e0_b1 | (simp only [nb1_b10, nb1_b5, nb1_b6, upd_app, seval]; first | done | exact e0_b1)), (by first | exact e0_b12 | (simp only [nb12_b10, nb12_b5, nb12_b6, upd_app, seval]; first | done | exact e0_b12)), ?_⟩ (by repeat (first | exact ag0 | refine agree.upd rfl ?_))
     rw [hst, hl]
     first | (simp only [Option.isSome_none, upd_app, List.map_append, List.map_cons, List.map_nil, Option.isSome_none, Bool.false_eq_true, seval]; rfl) | (simp only [f2, f3, f14, f15, f16, hb1, hb12, hb10, nb10_b1, nb1_b10, nb12_b1, nb1_b12, nb12_b10, nb10_b12, nb5_b1, nb1_b5, nb5_b12, nb12_b5, nb5_b10, nb10_b5, nb6_b1, nb1_b6, nb6_b12, nb12_b6, nb6_b10, nb10_b6, nb6_b5, nb5_b6, List.length_map, hg, hr, aput, Option.getD_some, Option.getD_none, Option.isSome_none, Option.isSome_some,  upd_app, Option.isSome_none, Option.isSome_some, if_true, Bool.false_eq_true, if_false, RR, seval]; done)
   ·try (cases hc6; done)
    all_goals
     refine awp_skip ?_; try simp only [RR]
     refine awp_region rfl ?_
     simp only [f16, RR, seval]
     try rw [IntWalk.i64_in _ (by omega)]
     refine hK0 _ _ hlt0 ⟨by first | rfl | (simp only [upd_app, seval]; rfl), (by first | exact e0_b1 | (simp only [nb1_b5, nb1_b6, upd_app, seval]; first | done | exact e0_b1)), (by first | exact e0_b12 | (simp only [nb12_b5, nb12_b6, upd_app, seval]; first | done | exact e0_b12)), ?_⟩ (by repeat (first | exact ag0 | refine agree.upd rfl ?_))
     rw [hst, hl]
     first | (simp only [hb10, nb10_b5, nb10_b6, Option.isSome_some,  upd_app, Option.isSome_some, seval]; rfl) | (simp only [hb10, nb10_b5, nb10_b6, Option.isSome_some,  upd_app, Option.isSome_some, seval]; done)
 ·have hkn0 : k = fs.length := by have := of_decide_eq_false hc; omega
  clear hc
  rw [hkn0, List.take_length] at hb10
  refine awp_exit ?_; simp only [RR, seval]
  refine awp_name fun F3 M3 hfr hH => ?_
  have g2 := hfr 2
  have g3 := hfr 3
  have gb1 := hH b1
  have gb12 := hH b12
  have gb10 := hH b10
  try simp only [f2, f3, hb1, hb12, hb10, RR, seval] at g2 g3 gb1 gb12 gb10
  have f2 := g2; clear g2
  have f3 := g3; clear g3
  have hb1 := gb1; clear gb1
  have hb12 := gb12; clear gb12
  have hb10 := gb10; clear gb10
  clear hfr hH
  refine awp_sealMap hb10 ?_
  refine awp_name fun F4 M4 hfr hH => ?_
  have g2 := hfr 2
  have g3 := hfr 3
  have gb1 := hH b1
  have gb12 := hH b12
  try simp only [SM, List.map_cons, List.map_nil, Option.map_some, f2, f3, hb1, hb12, nb1_b10, nb12_b10, seval] at g2 g3 gb1 gb12
  have f2 := g2; clear g2
  have f3 := g3; clear g3
  have hb1 := gb1; clear gb1
  have hb12 := gb12; clear gb12
  clear hfr hH
  refine awp_seq_k fun K hK => ?_
  refine awp_region rfl ?_
  simp only [RR, seval]
  refine hK _ _ ?_; clear hK K
  refine awp_seq_k fun K hK => ?_
  refine awp_region rfl ?_
  simp only [f3, RR, seval]
  refine hK _ _ ?_; clear hK K
  refine awp_seq_k fun K hK => ?_
  refine awp_region_draw2 (fun x => x ≠ b1 ∧ x ≠ b12) [(0, 3), (1, 3), (2, 3), (3, 3), (4, 3), (5, 3), (6, 3), (7, 3), (8, 3), (10, 3), (11, 3), (14, 3), (15, 3)] [(9, 1), (12, 3), (13, 1), (16, 3), (17, 1)] draws (by kernel_rfl) rfl rfl ?_
  simp only [emitF, f3, hb12, RR, seval]
  refine hK _ _ ?_; clear hK K
  refine awp_seq_k fun K hK => ?_
  refine awp_region rfl ?_
  simp only [f3, RR, seval]
  refine hK _ _ ?_; clear hK K
  refine awp_seq_k fun K hK => ?_
  refine awp_region rfl ?_
  simp only [f3, RR, seval]
  refine hK _ _ ?_; clear hK K
  refine awp_seq_k fun K hK => ?_
  refine awp_region rfl ?_
  simp only [f3, RR, seval]
  refine hK _ _ ?_; clear hK K
  refine awp_seq_k fun K hK => ?_
  refine awp_region_draw2 (fun x => x ≠ b1 ∧ x ≠ b12) [(0, 3), (1, 3), (2, 3), (3, 3), (4, 3), (5, 3), (6, 3), (7, 3), (8, 3), (10, 3), (11, 3), (14, 3), (15, 3)] [(9, 1), (12, 3), (13, 1), (16, 3), (17, 1)] draws (by kernel_rfl) rfl rfl ?_
  simp only [emitF, f3, RR, seval]
  refine hK _ _ ?_; clear hK K
  refine awp_seq_k fun K hK => ?_
  refine awp_region rfl ?_
  simp only [f3, RR, seval]
  refine hK _ _ ?_; clear hK K
  refine awp_ret ?_; simp only [bodyQ, aresult, ares, RR, seval]
  exact ⟨_, _, Turn.drop (hsub_H1 (b := b12) (by first | exact hb12 | (simp only [upd_app, seval]; done) | (simp only [f2, f3, hb1, hb12, nb10_b1, nb1_b10, nb12_b1, nb1_b12, nb12_b10, nb10_b12, List.length_map,  upd_app, RR, seval]; rfl))), _, rfl, b12, rfl, rfl⟩
end Go.Proofs.YtnfbbjhdflhmjaaDoor
namespace Go.Proofs.YtnfbbjhdflhmjaaDoor
open Go.Al
def hpR (p : Pg) (b : Nat) : Hp := H1 b (.rows 11 [rulesR p b])
theorem knF_firsts (p : Pg) (s : Str) : knF p s = ((firsts p.funs).find? fun g => decide (g.name = s)).isSome := by rw [find_firsts]; rfl
theorem wdF_firsts (p : Pg) (s : Str) : wdF p s = match (firsts p.funs).find? (fun g => decide (g.name = s)) with | some f => f.word | none => false := by rw [find_firsts]; rfl
theorem known_con (p : Pg) (b0 : Nat) (n : Nat) : ∀ e : Ex, e.sz ≤ n → e.ok → QCon env 95 [.ptr 11 b0 0 0, .agg e.row] (hpR p b0) (.bool (knE (knF p) e)) := by
 induction n using Nat.strongRecOn with
 | _ n ih =>
   intro e hn he
   have hz := e.sz_eq
   have hfit := he.kids.fit
   have hkids := he.kids.all
   have hX := knE_eq (knF p) e
   have hkn := knF_firsts p e.name
   have hfi := afind_fu e.name (firsts p.funs) 0
   have hall : ∀ x ∈ e.kids, QCon env 95 [.ptr 11 b0 0 0, .agg x.row] (hpR p b0) (.bool (knE (knF p) x)) := fun x hx => ih x.sz (by have := szE_mem hx; omega) x (Nat.le_refl _) (hkids x hx)
   generalize knE (knF p) e = res at *
   clear ih he hkids
   rw [e.row_eq]
   simp only [fitL] at hfit
   generalize knF p e.name = K1 at hX hkn
   obtain ⟨K4, z4⟩ : ∃ c, decide (e.kind = 4) = c := ⟨_, rfl⟩
   rw [z4] at hX
   cases K4 <;> rcases hfi with ⟨hl, hr⟩ | ⟨j, g, hl, hr⟩ <;> rw [hl] at hkn <;> subst hkn <;> simp only [Option.isSome_none, Option.isSome_some, Bool.not_true, Bool.not_false, Bool.or_false, Bool.or_true, Bool.true_and, Bool.false_and] at hX
   all_goals
    refine con_of 36 [.tmp 4] Tryd.func95 rfl rfl rfl rfl ?_
    have hb0 : (hpR p b0) b0 = some (.rows 11 [rulesR p b0]) := H1_same _ _
    simp only [rulesR, imF] at hb0
    refine awp_seq_k fun K hK => ?_
    refine awp_region rfl ?_
    simp only [RR, seval]
    refine awpN_intro fun b3 hn3 => ?_
    have nb3_b0 : b3 ≠ b0 := fun e => by rw [e] at hn3; simp only [hb0, seval, reduceCtorEq] at hn3
    have nb0_b3 : b0 ≠ b3 := fun e => nb3_b0 e.symm
    simp only [RR, seval]
    refine hK _ _ ?_; clear hK K
    refine awp_seq ?_
    refine awp_seq_k fun K hK => ?_
    refine awp_region rfl ?_
    simp only [z4, RR, seval]
    refine hK _ _ ?_; clear hK K
    refine awp_if _ rfl (fun hc1 => ?_) (fun hc1 => ?_)
    ·try (cases hc1; done)
     all_goals
      refine awp_seq_k fun K hK => ?_
      refine awp_region_draw2 (fun x => x ≠ b0 ∧ x ≠ b3) [(0, 3), (1, 3), (2, 3), (3, 0), (4, 3), (5, 0), (6, 0), (7, 3), (8, 3), (9, 3), (10, 1)] [(11, 1), (12, 3)] draws (by kernel_rfl) rfl rfl ?_
      simp only [emitF, markOf, EM, hb0, nb3_b0, nb0_b3, zip_pairs, hr, Option.getD_some, Option.getD_none, Option.isSome_none, Option.isSome_some, RR, seval]
      refine awpN_intro fun b5 hn5 => ?_
      have nb5_b0 : b5 ≠ b0 := fun e => by rw [e] at hn5; simp only [hb0, nb0_b3, RR, seval, reduceCtorEq] at hn5
      have nb0_b5 : b0 ≠ b5 := fun e => nb5_b0 e.symm
      have nb5_b3 : b5 ≠ b3 := fun e => by rw [e] at hn5; simp only [RR, seval, reduceCtorEq] at hn5
      have nb3_b5 : b3 ≠ b5 := fun e => nb5_b3 e.symm
      simp only [RR, seval]
      refine hK _ _ ?_; clear hK K
      refine awp_seq_k fun K hK => ?_
      refine awp_region rfl ?_
      simp only [RR, seval]
      refine hK _ _ ?_; clear hK K
      refine awp_if _ rfl (fun hc3 => ?_) (fun hc3 => ?_)
      ·try (cases hc3; done)
       all_goals
        refine awp_seq_k fun K hK => ?_
        refine awp_region rfl ?_
        simp only [RR, seval]
        refine hK _ _ ?_; clear hK K
        refine awp_ret ?_; simp only [bodyQ, aresult, ares, RR, seval]
        refine Gives.q ?_ (hsub_H1 (b := b0) (by first | exact hb0 | (simp only [hb0, nb0_b3, nb0_b5, upd_app, seval]; done) | (simp only [hb0, nb0_b3, nb0_b5, upd_app, seval]; rfl)))
        rw [hX]
      ·try (cases hc3; done)
       all_goals
        refine awp_skip ?_; try simp only [RR]
        refine awp_seq ?_
        refine awp_seq_k fun K hK => ?_
        refine awp_region rfl ?_
        simp only [nb3_b5, List.length_map, RR, seval]
        refine hK _ _ ?_; clear hK K
        refine awp_name fun F1 M1 hfr hH => ?_
        have g0 := hfr 0
        have g4 := hfr 4
        have g25 := hfr 25
        have g26 := hfr 26
        have g27 := hfr 27
        have gb0 := hH b0
        have gb3 := hH b3
        have gb5 := hH b5
        try simp only [hb0, nb0_b3, nb0_b5, nb3_b5, RR, seval] at g0 g4 g25 g26 g27 gb0 gb3 gb5
        have f0 := g0; clear g0
        have f4 := g4; clear g4
        have f25 := g25; clear g25
        have f26 := g26; clear g26
        have f27 := g27; clear g27
        have hb0 := gb0; clear gb0
        have hb3 := gb3; clear gb3
        have hb5 := gb5; clear gb5
        clear hfr hH
        refine awp_block ?_
        refine awp_each [0, 25, 26] (e.kids.length) (fun k fr M => fr 27 = .int .i64 (k : Nat) ∧ M b0 = M1 b0 ∧ M b3 = M1 b3 ∧ M b5 = M1 b5 ∧ res = knL (knF p) (e.kids.drop k)) ⟨f27, rfl, rfl, rfl, by rw [List.drop_zero]; exact hX⟩ ?_
        rintro k F2 M2 hk0 ⟨fx, gb0, gb3, gb5, hres⟩ agx K0 hK0
        have f0 := (agx 0 rfl).trans f0
        have f25 := (agx 25 rfl).trans f25
        have f26 := (agx 26 rfl).trans f26
        have f27 := fx; clear fx
        have hb0 := gb0.trans hb0
        have hb3 := gb3.trans hb3
        have hb5 := gb5.trans hb5
        have ag0 := agree.refl [0, 25, 26] F2
        have e0_b0 := gb0; clear gb0
        have e0_b3 := gb3; clear gb3
        have e0_b5 := gb5; clear gb5
        clear agx
        refine awp_seq_k fun K hK => ?_
        refine awp_region rfl ?_
        simp only [f26, f27, RR, seval]
        refine hK _ _ ?_; clear hK K
        refine awp_seq ?_
        refine awp_if _ rfl (fun hc => ?_) (fun hc => ?_)
        ·have hlt0 : k < e.kids.length := by have := of_decide_eq_true hc; omega
         clear hc
         have hg := getE (List.getElem?_eq_getElem hlt0)
         have hm := hall _ (List.getElem_mem hlt0)
         rw [List.drop_eq_getElem_cons hlt0, knL_cons] at hres
         generalize e.kids[k] = x at hg hres hm
         rw [x.row_eq] at hm
         generalize knE (knF p) x = KK at hres hm
         refine awp_skip ?_; try simp only [RR]
         refine awp_seq ?_
         refine awp_block ?_
         refine awp_seq_k fun K hK => ?_
         refine awp_region rfl ?_
         simp only [f25, f27, hg, RR, seval]
         refine awpN_intro fun b8 hn8 => ?_
         have nb8_b0 : b8 ≠ b0 := fun e => by rw [e] at hn8; simp only [hb0, seval, reduceCtorEq] at hn8
         have nb0_b8 : b0 ≠ b8 := fun e => nb8_b0 e.symm
         have nb8_b3 : b8 ≠ b3 := fun e => by rw [e] at hn8; simp only [hb3, seval, reduceCtorEq] at hn8
         have nb3_b8 : b3 ≠ b8 := fun e => nb8_b3 e.symm
         have nb8_b5 : b8 ≠ b5 := fun e => by rw [e] at hn8; simp only [hb5, seval, reduceCtorEq] at hn8
         have nb5_b8 : b5 ≠ b8 := fun e => nb8_b5 e.symm
         simp only [RR, seval]
         refine hK _ _ ?_; clear hK K
         refine awp_seq_k fun K hK => ?_
         refine awp_region rfl ?_
         simp only [f0, RR, seval]
         refine awpC_q1 (b := b0) hm (by first | exact hb0 | (simp only [hb0, nb0_b8, upd_app, seval]; done) | (simp only [hb0, nb0_b8, upd_app, seval]; rfl)) (fun _ => trivial) ?_
         simp only [RR, seval]
         refine hK _ _ ?_; clear hK K
         refine awp_if _ rfl (fun hc8 => ?_) (fun hc8 => ?_)
         ·try (cases hc8; done)
          all_goals
           refine awp_seq_k fun K hK => ?_
           refine awp_region rfl ?_
           simp only [RR, seval]
           refine hK _ _ ?_; clear hK K
           refine awp_ret ?_; simp only [bodyQ, aresult, ares, RR, seval]
           refine Gives.q ?_ (hsub_H1 (b := b0) (by first | exact hb0 | (simp only [hb0, nb0_b8, upd_app, seval]; done) | (simp only [hb0, nb0_b8, upd_app, seval]; rfl)))
           rw [hres, show KK = false by simpa using hc8]
           rfl
         ·try (cases hc8; done)
          all_goals
           refine awp_skip ?_; try simp only [RR]
           refine awp_region rfl ?_
           simp only [f27, RR, seval]
           try rw [IntWalk.i64_in _ (by omega)]
           refine hK0 _ _ hlt0 ⟨by first | rfl | (simp only [upd_app, seval]; rfl), (by first | exact e0_b0 | (simp only [nb0_b8, upd_app, seval]; first | done | exact e0_b0)), (by first | exact e0_b3 | (simp only [nb3_b8, upd_app, seval]; first | done | exact e0_b3)), (by first | exact e0_b5 | (simp only [nb5_b8, upd_app, seval]; first | done | exact e0_b5)), by rw [hres, show KK = true by simpa using hc8, Bool.true_and]⟩ (by repeat (first | exact ag0 | refine agree.upd rfl ?_))
        ·have hkn0 : k = e.kids.length := by have := of_decide_eq_false hc; omega
         clear hc
         refine awp_exit ?_; simp only [RR, seval]
         refine awp_seq_k fun K hK => ?_
         refine awp_region rfl ?_
         simp only [RR, seval]
         refine hK _ _ ?_; clear hK K
         refine awp_ret ?_; simp only [bodyQ, aresult, ares, RR, seval]
         refine Gives.q ?_ (hsub_H1 (b := b0) (by first | exact hb0 | (simp only [f0, f25, f26, f27, hb0, hb3, hb5, nb3_b0, nb0_b3, nb5_b0, nb0_b5, nb5_b3, nb3_b5, List.length_map, z4, zip_pairs, hr, Option.getD_some, Option.getD_none, Option.isSome_none, Option.isSome_some,  upd_app, seval]; done) | (simp only [f0, f25, f26, f27, hb0, hb3, hb5, nb3_b0, nb0_b3, nb5_b0, nb0_b5, nb5_b3, nb3_b5, List.length_map, z4, zip_pairs, hr, Option.getD_some, Option.getD_none, Option.isSome_none, Option.isSome_some,  upd_app, seval]; rfl)))
         rw [hres, hkn0, List.drop_length, knL_nil]
    ·try (cases hc1; done)
     all_goals
      refine awp_skip ?_; try simp only [RR]
      refine awp_seq ?_
      refine awp_seq_k fun K hK => ?_
      refine awp_region rfl ?_
      simp only [List.length_map, RR, seval]
      refine hK _ _ ?_; clear hK K
      refine awp_name fun F3 M3 hfr hH => ?_
      have g0 := hfr 0
      have g4 := hfr 4
      have g25 := hfr 25
      have g26 := hfr 26
      have g27 := hfr 27
      have gb0 := hH b0
      have gb3 := hH b3
      try simp only [hb0, nb0_b3, RR, seval] at g0 g4 g25 g26 g27 gb0 gb3
      have f0 := g0; clear g0
      have f4 := g4; clear g4
      have f25 := g25; clear g25
      have f26 := g26; clear g26
      have f27 := g27; clear g27
      have hb0 := gb0; clear gb0
      have hb3 := gb3; clear gb3
      clear hfr hH
      refine awp_block ?_
      refine awp_each [0, 25, 26] (e.kids.length) (fun k fr M => fr 27 = .int .i64 (k : Nat) ∧ M b0 = M3 b0 ∧ M b3 = M3 b3 ∧ res = knL (knF p) (e.kids.drop k)) ⟨f27, rfl, rfl, by rw [List.drop_zero]; exact hX⟩ ?_
      rintro k F4 M4 hk0 ⟨fx, gb0, gb3, hres⟩ agx K0 hK0
      have f0 := (agx 0 rfl).trans f0
      have f25 := (agx 25 rfl).trans f25
      have f26 := (agx 26 rfl).trans f26
      have f27 := fx; clear fx
      have hb0 := gb0.trans hb0
      have hb3 := gb3.trans hb3
      have ag0 := agree.refl [0, 25, 26] F4
      have e0_b0 := gb0; clear gb0
      have e0_b3 := gb3; clear gb3
      clear agx
      refine awp_seq_k fun K hK => ?_
      refine awp_region rfl ?_
      simp only [f26, f27, RR, seval]
      refine hK _ _ ?_; clear hK K
      refine awp_seq ?_
      refine awp_if _ rfl (fun hc => ?_) (fun hc => ?_)
      ·have hlt0 : k < e.kids.length := by have := of_decide_eq_true hc; omega
       clear hc
       have hg := getE (List.getElem?_eq_getElem hlt0)
       have hm := hall _ (List.getElem_mem hlt0)
       rw [List.drop_eq_getElem_cons hlt0, knL_cons] at hres
       generalize e.kids[k] = x at hg hres hm
       rw [x.row_eq] at hm
       generalize knE (knF p) x = KK at hres hm
       refine awp_skip ?_; try simp only [RR]
       refine awp_seq ?_
       refine awp_block ?_
       refine awp_seq_k fun K hK => ?_
       refine awp_region rfl ?_
       simp only [f25, f27, hg, RR, seval]
       refine awpN_intro fun b8 hn8 => ?_
       have nb8_b0 : b8 ≠ b0 := fun e => by rw [e] at hn8; simp only [hb0, seval, reduceCtorEq] at hn8
       have nb0_b8 : b0 ≠ b8 := fun e => nb8_b0 e.symm
       have nb8_b3 : b8 ≠ b3 := fun e => by rw [e] at hn8; simp only [hb3, seval, reduceCtorEq] at hn8
       have nb3_b8 : b3 ≠ b8 := fun e => nb8_b3 e.symm
       simp only [RR, seval]
       refine hK _ _ ?_; clear hK K
       refine awp_seq_k fun K hK => ?_
       refine awp_region rfl ?_
       simp only [f0, RR, seval]
       refine awpC_q1 (b := b0) hm (by first | exact hb0 | (simp only [hb0, nb0_b8, upd_app, seval]; done) | (simp only [hb0, nb0_b8, upd_app, seval]; rfl)) (fun _ => trivial) ?_
       simp only [RR, seval]
       refine hK _ _ ?_; clear hK K
       refine awp_if _ rfl (fun hc8 => ?_) (fun hc8 => ?_)
       ·try (cases hc8; done)
        all_goals
         refine awp_seq_k fun K hK => ?_
         refine awp_region rfl ?_
         simp only [RR, seval]
         refine hK _ _ ?_; clear hK K
         refine awp_ret ?_; simp only [bodyQ, aresult, ares, RR, seval]
         refine Gives.q ?_ (hsub_H1 (b := b0) (by first | exact hb0 | (simp only [hb0, nb0_b8, upd_app, seval]; done) | (simp only [hb0, nb0_b8, upd_app, seval]; rfl)))
         rw [hres, show KK = false by simpa using hc8]
         rfl
       ·try (cases hc8; done)
        all_goals
         refine awp_skip ?_; try simp only [RR]
         refine awp_region rfl ?_
         simp only [f27, RR, seval]
         try rw [IntWalk.i64_in _ (by omega)]
         refine hK0 _ _ hlt0 ⟨by first | rfl | (simp only [upd_app, seval]; rfl), (by first | exact e0_b0 | (simp only [nb0_b8, upd_app, seval]; first | done | exact e0_b0)), (by first | exact e0_b3 | (simp only [nb3_b8, upd_app, seval]; first | done | exact e0_b3)), by rw [hres, show KK = true by simpa using hc8, Bool.true_and]⟩ (by repeat (first | exact ag0 | refine agree.upd rfl ?_))
      ·have hkn0 : k = e.kids.length := by have := of_decide_eq_false hc; omega
       clear hc
       refine awp_exit ?_; simp only [RR, seval]
       refine awp_seq_k fun K hK => ?_
       refine awp_region rfl ?_
       simp only [RR, seval]
       refine hK _ _ ?_; clear hK K
       refine awp_ret ?_; simp only [bodyQ, aresult, ares, RR, seval]
       refine Gives.q ?_ (hsub_H1 (b := b0) (by first | exact hb0 | (simp only [f0, f25, f26, f27, hb0, hb3, nb3_b0, nb0_b3, List.length_map, z4, zip_pairs, hr, Option.getD_some, Option.getD_none, Option.isSome_none, Option.isSome_some,  upd_app, seval]; done) | (simp only [f0, f25, f26, f27, hb0, hb3, nb3_b0, nb0_b3, List.length_map, z4, zip_pairs, hr, Option.getD_some, Option.getD_none, Option.isSome_none, Option.isSome_some,  upd_app, seval]; rfl)))
       rw [hres, hkn0, List.drop_length, knL_nil]
end Go.Proofs.YtnfbbjhdflhmjaaDoor
namespace Go.Proofs.YtnfbbjhdflhmjaaDoor
open Go.Al
theorem word_con (e : Ex) : PCon env 90 [.agg e.row] (.int .i64 1) := by
 rw [e.row_eq]
 refine con_of 3 [.tmp 2] Tryd.func90 rfl rfl rfl rfl ?_
 refine awp_seq_k fun K hK => ?_
 refine awp_region rfl ?_
 simp only [RR, seval]
 refine awpN_intro fun b1 hn1 => ?_
 simp only [RR, seval]
 refine hK _ _ ?_; clear hK K
 refine awp_seq_k fun K hK => ?_
 refine awp_region rfl ?_
 simp only [RR, seval]
 refine hK _ _ ?_; clear hK K
 refine awp_ret ?_; simp only [bodyQ, aresult, ares, RR, seval]
 refine Gives.pure ?_
 rfl
def TpOk (p : Pg) (b0 : Nat) (l : List Ex) : Prop := ∀ e ∈ l, QCon env 109 [.ptr 11 b0 0 0, .agg e.row] (hpR p b0) (.int .i64 (tyE (wdF p) e))
theorem all_con (p : Pg) (b0 : Nat) (l : List Ex) (hl : fitL l) (t : Int) (h : TpOk p b0 l) : QCon env 96 [.ptr 11 b0 0 0, .isl 5 (l.map Ex.row), .int .i64 t] (hpR p b0) (.bool (allT (wdF p) l t)) := by
 simp only [fitL] at hl
 unfold TpOk at h
 generalize wdF p = W at *
 refine con_of 21 [.tmp 6] Tryd.func96 rfl rfl rfl rfl ?_
 have hb0 : (hpR p b0) b0 = some (.rows 11 [rulesR p b0]) := H1_same _ _
 simp only [rulesR, imF] at hb0
 refine awp_seq_k fun K hK => ?_
 refine awp_region rfl ?_
 simp only [RR, seval]
 refine hK _ _ ?_; clear hK K
 refine awp_seq ?_
 refine awp_seq_k fun K hK => ?_
 refine awp_region rfl ?_
 simp only [List.length_map, RR, seval]
 refine hK _ _ ?_; clear hK K
 refine awp_name fun F1 M1 hfr hH => ?_
 have g0 := hfr 0
 have g2 := hfr 2
 have g6 := hfr 6
 have g9 := hfr 9
 have g10 := hfr 10
 have g11 := hfr 11
 have gb0 := hH b0
 try simp only [hb0, RR, seval] at g0 g2 g6 g9 g10 g11 gb0
 have f0 := g0; clear g0
 have f2 := g2; clear g2
 have f6 := g6; clear g6
 have f9 := g9; clear g9
 have f10 := g10; clear g10
 have f11 := g11; clear g11
 have hb0 := gb0; clear gb0
 clear hfr hH
 refine awp_block ?_
 refine awp_each [0, 2, 9, 10] (l.length) (fun k fr M => fr 11 = .int .i64 (k : Nat) ∧ M b0 = M1 b0 ∧ allT W l t = allT W (l.drop k) t) ⟨f11, rfl, by rw [List.drop_zero]⟩ ?_
 rintro k F2 M2 hk0 ⟨fx, gb0, hall⟩ agx K0 hK0
 have f0 := (agx 0 rfl).trans f0
 have f2 := (agx 2 rfl).trans f2
 have f9 := (agx 9 rfl).trans f9
 have f10 := (agx 10 rfl).trans f10
 have f11 := fx; clear fx
 have hb0 := gb0.trans hb0
 have ag0 := agree.refl [0, 2, 9, 10] F2
 have e0_b0 := gb0; clear gb0
 clear agx
 refine awp_seq_k fun K hK => ?_
 refine awp_region rfl ?_
 simp only [f10, f11, RR, seval]
 refine hK _ _ ?_; clear hK K
 refine awp_seq ?_
 refine awp_if _ rfl (fun hc => ?_) (fun hc => ?_)
 ·have hlt0 : k < l.length := by have := of_decide_eq_true hc; omega
  clear hc
  have hg := getE (List.getElem?_eq_getElem hlt0)
  have hm := h _ (List.getElem_mem hlt0)
  rw [List.drop_eq_getElem_cons hlt0, allT_cons] at hall
  generalize l[k] = e at hg hall hm
  rw [e.row_eq] at hm
  generalize tyE W e = u at hall hm
  refine awp_skip ?_; try simp only [RR]
  refine awp_seq ?_
  refine awp_block ?_
  refine awp_seq_k fun K hK => ?_
  refine awp_region rfl ?_
  simp only [f9, f11, hg, RR, seval]
  refine awpN_intro fun b8 hn8 => ?_
  have nb8_b0 : b8 ≠ b0 := fun e => by rw [e] at hn8; simp only [hb0, seval, reduceCtorEq] at hn8
  have nb0_b8 : b0 ≠ b8 := fun e => nb8_b0 e.symm
  simp only [RR, seval]
  refine hK _ _ ?_; clear hK K
  refine awp_seq_k fun K hK => ?_
  refine awp_region rfl ?_
  simp only [f0, RR, seval]
  refine awpC_q1 (b := b0) hm (by first | exact hb0 | (simp only [hb0, nb0_b8, upd_app, seval]; done) | (simp only [hb0, nb0_b8, upd_app, seval]; rfl)) (fun _ => trivial) ?_
  simp only [f2, RR, seval]
  refine hK _ _ ?_; clear hK K
  refine awp_if _ rfl (fun hc4 => ?_) (fun hc4 => ?_)
  ·refine awp_seq_k fun K hK => ?_
   refine awp_region rfl ?_
   simp only [RR, seval]
   refine hK _ _ ?_; clear hK K
   refine awp_ret ?_; simp only [bodyQ, aresult, ares, RR, seval]
   refine Gives.q ?_ (hsub_H1 (b := b0) (by first | exact hb0 | (simp only [hb0, nb0_b8, upd_app, seval]; done) | (simp only [hb0, nb0_b8, upd_app, seval]; rfl)))
   rw [hall, show decide (u = t) = false by simpa using hc4, Bool.false_and]
  ·refine awp_skip ?_; try simp only [RR]
   refine awp_region rfl ?_
   simp only [f11, RR, seval]
   try rw [IntWalk.i64_in _ (by omega)]
   refine hK0 _ _ hlt0 ⟨by first | rfl | (simp only [upd_app, seval]; rfl), (by first | exact e0_b0 | (simp only [nb0_b8, upd_app, seval]; first | done | exact e0_b0)), by rw [hall, show decide (u = t) = true by simpa using hc4, Bool.true_and]⟩ (by repeat (first | exact ag0 | refine agree.upd rfl ?_))
 ·have hkn0 : k = l.length := by have := of_decide_eq_false hc; omega
  clear hc
  refine awp_exit ?_; simp only [RR, seval]
  refine awp_seq_k fun K hK => ?_
  refine awp_region rfl ?_
  simp only [RR, seval]
  refine hK _ _ ?_; clear hK K
  refine awp_ret ?_; simp only [bodyQ, aresult, ares, RR, seval]
  refine Gives.q ?_ (hsub_H1 (b := b0) (by first | exact hb0 | (simp only [f0, f2, f9, f10, f11, hb0, List.length_map,  upd_app, seval]; done) | (simp only [f0, f2, f9, f10, f11, hb0, List.length_map,  upd_app, seval]; rfl)))
  rw [hall, hkn0, List.drop_length, allT_nil]
theorem both_con (p : Pg) (b0 : Nat) (e : Ex) (he : fitL e.kids) (h : TpOk p b0 e.kids) : QCon env 91 [.ptr 11 b0 0 0, .agg e.row] (hpR p b0) (.int .i64 (if allT (wdF p) e.kids 2 = true then 2 else 0)) := by
 have ha := all_con p b0 e.kids he 2 h
 generalize allT (wdF p) e.kids 2 = A at *
 rw [e.row_eq]
 refine con_of 9 [.tmp 4] Tryd.func91 rfl rfl rfl rfl ?_
 have hb0 : (hpR p b0) b0 = some (.rows 11 [rulesR p b0]) := H1_same _ _
 simp only [rulesR, imF] at hb0
 refine awp_seq_k fun K hK => ?_
 refine awp_region rfl ?_
 simp only [RR, seval]
 refine awpN_intro fun b3 hn3 => ?_
 have nb3_b0 : b3 ≠ b0 := fun e => by rw [e] at hn3; simp only [hb0, seval, reduceCtorEq] at hn3
 have nb0_b3 : b0 ≠ b3 := fun e => nb3_b0 e.symm
 simp only [RR, seval]
 refine hK _ _ ?_; clear hK K
 refine awp_seq ?_
 refine awp_seq_k fun K hK => ?_
 refine awp_region rfl ?_
 simp only [RR, seval]
 refine awpC_q1 (b := b0) ha (by first | exact hb0 | (simp only [hb0, nb0_b3,  upd_app, seval]; done) | (simp only [hb0, nb0_b3,  upd_app, seval]; rfl)) (fun _ => trivial) ?_
 simp only [RR, seval]
 refine hK _ _ ?_; clear hK K
 refine awp_if _ rfl (fun hc1 => ?_) (fun hc1 => ?_)
 ·refine awp_seq_k fun K hK => ?_
  refine awp_region rfl ?_
  simp only [RR, seval]
  refine hK _ _ ?_; clear hK K
  refine awp_ret ?_; simp only [bodyQ, aresult, ares, RR, seval]
  refine Gives.q ?_ (hsub_H1 (b := b0) (by first | exact hb0 | (simp only [hb0, nb0_b3,  upd_app, seval]; done) | (simp only [hb0, nb0_b3,  upd_app, seval]; rfl)))
  rw [hc1]
  rfl
 ·refine awp_skip ?_; try simp only [RR]
  refine awp_seq_k fun K hK => ?_
  refine awp_region rfl ?_
  simp only [RR, seval]
  refine hK _ _ ?_; clear hK K
  refine awp_ret ?_; simp only [bodyQ, aresult, ares, RR, seval]
  refine Gives.q ?_ (hsub_H1 (b := b0) (by first | exact hb0 | (simp only [hb0, nb0_b3,  upd_app, seval]; done) | (simp only [hb0, nb0_b3,  upd_app, seval]; rfl)))
  rw [hc1]
  rfl
theorem index_con (p : Pg) (b0 : Nat) (e : Ex) (he : fitL e.kids) (h : TpOk p b0 e.kids) : QCon env 92 [.ptr 11 b0 0 0, .agg e.row] (hpR p b0) (.int .i64 (if allT (wdF p) e.kids 1 = true then 1 else 0)) := by
 have ha := all_con p b0 e.kids he 1 h
 generalize allT (wdF p) e.kids 1 = A at *
 rw [e.row_eq]
 refine con_of 9 [.tmp 4] Tryd.func92 rfl rfl rfl rfl ?_
 have hb0 : (hpR p b0) b0 = some (.rows 11 [rulesR p b0]) := H1_same _ _
 simp only [rulesR, imF] at hb0
 refine awp_seq_k fun K hK => ?_
 refine awp_region rfl ?_
 simp only [RR, seval]
 refine awpN_intro fun b3 hn3 => ?_
 have nb3_b0 : b3 ≠ b0 := fun e => by rw [e] at hn3; simp only [hb0, seval, reduceCtorEq] at hn3
 have nb0_b3 : b0 ≠ b3 := fun e => nb3_b0 e.symm
 simp only [RR, seval]
 refine hK _ _ ?_; clear hK K
 refine awp_seq ?_
 refine awp_seq_k fun K hK => ?_
 refine awp_region rfl ?_
 simp only [RR, seval]
 refine awpC_q1 (b := b0) ha (by first | exact hb0 | (simp only [hb0, nb0_b3,  upd_app, seval]; done) | (simp only [hb0, nb0_b3,  upd_app, seval]; rfl)) (fun _ => trivial) ?_
 simp only [RR, seval]
 refine hK _ _ ?_; clear hK K
 refine awp_if _ rfl (fun hc1 => ?_) (fun hc1 => ?_)
 ·refine awp_seq_k fun K hK => ?_
  refine awp_region rfl ?_
  simp only [RR, seval]
  refine hK _ _ ?_; clear hK K
  refine awp_ret ?_; simp only [bodyQ, aresult, ares, RR, seval]
  refine Gives.q ?_ (hsub_H1 (b := b0) (by first | exact hb0 | (simp only [hb0, nb0_b3,  upd_app, seval]; done) | (simp only [hb0, nb0_b3,  upd_app, seval]; rfl)))
  rw [hc1]
  rfl
 ·refine awp_skip ?_; try simp only [RR]
  refine awp_seq_k fun K hK => ?_
  refine awp_region rfl ?_
  simp only [RR, seval]
  refine hK _ _ ?_; clear hK K
  refine awp_ret ?_; simp only [bodyQ, aresult, ares, RR, seval]
  refine Gives.q ?_ (hsub_H1 (b := b0) (by first | exact hb0 | (simp only [hb0, nb0_b3,  upd_app, seval]; done) | (simp only [hb0, nb0_b3,  upd_app, seval]; rfl)))
  rw [hc1]
  rfl
theorem op_con (p : Pg) (b0 : Nat) (e : Ex) (he : fitL e.kids) (h : TpOk p b0 e.kids) : QCon env 94 [.ptr 11 b0 0 0, .agg e.row] (hpR p b0) (.int .i64 (if allT (wdF p) e.kids 1 = true then (if e.op = 14 ∨ e.op = 15 then 2 else 1) else 0)) := by
 have ha := all_con p b0 e.kids he 1 h
 generalize allT (wdF p) e.kids 1 = A at *
 rw [e.row_eq]
 refine con_of 18 [.tmp 4] Tryd.func94 rfl rfl rfl rfl ?_
 have hb0 : (hpR p b0) b0 = some (.rows 11 [rulesR p b0]) := H1_same _ _
 simp only [rulesR, imF] at hb0
 refine awp_seq_k fun K hK => ?_
 refine awp_region rfl ?_
 simp only [RR, seval]
 refine awpN_intro fun b3 hn3 => ?_
 have nb3_b0 : b3 ≠ b0 := fun e => by rw [e] at hn3; simp only [hb0, seval, reduceCtorEq] at hn3
 have nb0_b3 : b0 ≠ b3 := fun e => nb3_b0 e.symm
 simp only [RR, seval]
 refine hK _ _ ?_; clear hK K
 refine awp_seq ?_
 refine awp_seq_k fun K hK => ?_
 refine awp_region rfl ?_
 simp only [RR, seval]
 refine awpC_q1 (b := b0) ha (by first | exact hb0 | (simp only [hb0, nb0_b3,  upd_app, seval]; done) | (simp only [hb0, nb0_b3,  upd_app, seval]; rfl)) (fun _ => trivial) ?_
 simp only [RR, seval]
 refine hK _ _ ?_; clear hK K
 refine awp_if _ rfl (fun hc1 => ?_) (fun hc1 => ?_)
 ·refine awp_seq_k fun K hK => ?_
  refine awp_region rfl ?_
  simp only [RR, seval]
  refine hK _ _ ?_; clear hK K
  refine awp_ret ?_; simp only [bodyQ, aresult, ares, RR, seval]
  refine Gives.q ?_ (hsub_H1 (b := b0) (by first | exact hb0 | (simp only [hb0, nb0_b3,  upd_app, seval]; done) | (simp only [hb0, nb0_b3,  upd_app, seval]; rfl)))
  rw [show A = false by simpa using hc1]
  rfl
 ·refine awp_skip ?_; try simp only [RR]
  refine awp_seq ?_
  refine awp_seq_k fun K hK => ?_
  refine awp_region rfl ?_
  simp only [RR, seval]
  repeat' ((first | refine awpG_splitN (fun h => ?_) (fun h => ?_) | refine awpG_split (fun h => ?_) (fun h => ?_)) <;> simp only [h, RR, seval])
  all_goals
   refine hK _ _ ?_; clear hK K
   refine awp_if _ rfl (fun hc3 => ?_) (fun hc3 => ?_)
   ·try (cases hc3; done)
    all_goals
     refine awp_seq_k fun K hK => ?_
     refine awp_region rfl ?_
     simp only [RR, seval]
     refine hK _ _ ?_; clear hK K
     refine awp_ret ?_; simp only [bodyQ, aresult, ares, RR, seval]
     refine Gives.q ?_ (hsub_H1 (b := b0) (by first | exact hb0 | (simp only [hb0, nb0_b3,  upd_app, seval]; done) | (simp only [hb0, nb0_b3,  upd_app, seval]; rfl)))
     rw [show A = true by simpa using hc1]
     simp_all
   ·try (cases hc3; done)
    all_goals
     refine awp_skip ?_; try simp only [RR]
     refine awp_seq_k fun K hK => ?_
     refine awp_region rfl ?_
     simp only [RR, seval]
     refine hK _ _ ?_; clear hK K
     refine awp_ret ?_; simp only [bodyQ, aresult, ares, RR, seval]
     refine Gives.q ?_ (hsub_H1 (b := b0) (by first | exact hb0 | (simp only [hb0, nb0_b3,  upd_app, seval]; done) | (simp only [hb0, nb0_b3,  upd_app, seval]; rfl)))
     rw [show A = true by simpa using hc1]
     simp_all
theorem call_con (p : Pg) (b0 : Nat) (e : Ex) (he : fitL e.kids) (h : TpOk p b0 e.kids) : QCon env 93 [.ptr 11 b0 0 0, .agg e.row] (hpR p b0) (.int .i64 (if (wdF p e.name && allT (wdF p) e.kids 1) = true then 1 else 0)) := by
 have ha := all_con p b0 e.kids he 1 h
 have hwd := wdF_firsts p e.name
 have hfi := afind_fu e.name (firsts p.funs) 0
 generalize allT (wdF p) e.kids 1 = A at *
 generalize wdF p e.name = WD at *
 rw [e.row_eq]
 rcases hfi with ⟨hl, hr⟩ | ⟨j, g, hl, hr⟩ <;> rw [hl] at hwd <;> subst hwd
 ·skip
  refine con_of 19 [.tmp 4] Tryd.func93 rfl rfl rfl rfl ?_
  have hb0 : (hpR p b0) b0 = some (.rows 11 [rulesR p b0]) := H1_same _ _
  simp only [rulesR, imF] at hb0
  refine awp_seq_k fun K hK => ?_
  refine awp_region rfl ?_
  simp only [RR, seval]
  refine awpN_intro fun b3 hn3 => ?_
  have nb3_b0 : b3 ≠ b0 := fun e => by rw [e] at hn3; simp only [hb0, seval, reduceCtorEq] at hn3
  have nb0_b3 : b0 ≠ b3 := fun e => nb3_b0 e.symm
  simp only [RR, seval]
  refine hK _ _ ?_; clear hK K
  refine awp_seq ?_
  refine awp_seq_k fun K hK => ?_
  refine awp_region_draw2 (fun _ => True) [(0, 3), (1, 3), (2, 3), (3, 1), (4, 3), (5, 1), (6, 1), (7, 3), (8, 3), (9, 3), (10, 3), (11, 1), (12, 1), (13, 3)] [] draws (by kernel_rfl) rfl rfl ?_
  simp only [emitF, hb0, nb0_b3, zip_pairs, hr, Option.getD_none, RR, seval]
  all_goals try ((first | refine awpG_splitN (fun h => ?_) (fun h => ?_) | refine awpG_split (fun h => ?_) (fun h => ?_)) <;> simp only [h, emitF, markOf, EM, hb0, nb3_b0, nb0_b3, zip_pairs, hr, Option.getD_none, Option.isSome_none, RR, seval])
  all_goals try (refine awpC_q1 (b := b0) ha (by first | exact hb0 | (simp only [hb0, nb3_b0, nb0_b3, zip_pairs, hr, Option.getD_none, Option.isSome_none,  upd_app, seval]; done) | (simp only [hb0, nb3_b0, nb0_b3, zip_pairs, hr, Option.getD_none, Option.isSome_none,  upd_app, seval]; rfl)) (fun _ => trivial) ?_; simp only [emitF, markOf, EM, hb0, nb3_b0, nb0_b3, zip_pairs, hr, Option.getD_none, Option.isSome_none, RR, seval])
  all_goals
   refine hK _ _ ?_; clear hK K
   refine awp_if _ rfl (fun hc1 => ?_) (fun hc1 => ?_)
   ·try (cases hc1; done)
    all_goals
     refine awp_seq_k fun K hK => ?_
     refine awp_region rfl ?_
     simp only [zip_pairs, hr, Option.getD_none, Option.isSome_none, RR, seval]
     refine hK _ _ ?_; clear hK K
     refine awp_ret ?_; simp only [bodyQ, aresult, ares, zip_pairs, hr, Option.getD_none, Option.isSome_none, RR, seval]
     refine Gives.q ?_ (hsub_H1 (b := b0) (by first | exact hb0 | (simp only [hb0, nb3_b0, nb0_b3, zip_pairs, hr, Option.getD_none, Option.isSome_none,  upd_app, seval]; done) | (simp only [hb0, nb3_b0, nb0_b3, zip_pairs, hr, Option.getD_none, Option.isSome_none,  upd_app, seval]; rfl)))
     simp_all
   ·try (cases hc1; done)
    all_goals
     refine awp_skip ?_; try simp only [RR]
     refine awp_seq_k fun K hK => ?_
     refine awp_region rfl ?_
     simp only [RR, seval]
     refine hK _ _ ?_; clear hK K
     refine awp_ret ?_; simp only [bodyQ, aresult, ares, RR, seval]
     refine Gives.q ?_ (hsub_H1 (b := b0) (by first | exact hb0 | (simp only [hb0, nb0_b3, upd_app, seval]; done) | (simp only [hb0, nb0_b3, upd_app, seval]; rfl)))
     simp_all
 ·obtain ⟨gn, gp, gl, gw, gb⟩ := g
  simp only at hr ⊢
  cases gw <;> cases A
  all_goals
   refine con_of 19 [.tmp 4] Tryd.func93 rfl rfl rfl rfl ?_
   have hb0 : (hpR p b0) b0 = some (.rows 11 [rulesR p b0]) := H1_same _ _
   simp only [rulesR, imF] at hb0
   refine awp_seq_k fun K hK => ?_
   refine awp_region rfl ?_
   simp only [RR, seval]
   refine awpN_intro fun b3 hn3 => ?_
   have nb3_b0 : b3 ≠ b0 := fun e => by rw [e] at hn3; simp only [hb0, seval, reduceCtorEq] at hn3
   have nb0_b3 : b0 ≠ b3 := fun e => nb3_b0 e.symm
   simp only [RR, seval]
   refine hK _ _ ?_; clear hK K
   refine awp_seq ?_
   refine awp_seq_k fun K hK => ?_
   refine awp_region_draw2 (fun _ => True) [(0, 3), (1, 3), (2, 3), (3, 1), (4, 3), (5, 1), (6, 1), (7, 3), (8, 3), (9, 3), (10, 3), (11, 1), (12, 1), (13, 3)] [] draws (by kernel_rfl) rfl rfl ?_
   simp only [emitF, hb0, nb0_b3, zip_pairs, hr, Option.getD_some, RR, seval]
   all_goals try ((first | refine awpG_splitN (fun h => ?_) (fun h => ?_) | refine awpG_split (fun h => ?_) (fun h => ?_)) <;> simp only [h, emitF, markOf, EM, hb0, nb3_b0, nb0_b3, zip_pairs, hr, Option.getD_some, Option.isSome_some, RR, seval])
   all_goals try (refine awpC_q1 (b := b0) ha (by first | exact hb0 | (simp only [hb0, nb0_b3, upd_app, seval]; done) | (simp only [hb0, nb0_b3, upd_app, seval]; rfl)) (fun _ => trivial) ?_; simp only [RR, seval])
   all_goals
    refine hK _ _ ?_; clear hK K
    refine awp_if _ rfl (fun hc1 => ?_) (fun hc1 => ?_)
    ·try (cases hc1; done)
     all_goals
      refine awp_seq_k fun K hK => ?_
      refine awp_region rfl ?_
      simp only [RR, seval]
      refine hK _ _ ?_; clear hK K
      refine awp_ret ?_; simp only [bodyQ, aresult, ares, RR, seval]
      refine Gives.q ?_ (hsub_H1 (b := b0) (by first | exact hb0 | (simp only [hb0, nb0_b3, upd_app, seval]; done) | (simp only [hb0, nb0_b3, upd_app, seval]; rfl)))
      rfl
    ·try (cases hc1; done)
     all_goals
      refine awp_skip ?_; try simp only [RR]
      refine awp_seq_k fun K hK => ?_
      refine awp_region rfl ?_
      simp only [RR, seval]
      refine hK _ _ ?_; clear hK K
      refine awp_ret ?_; simp only [bodyQ, aresult, ares, RR, seval]
      refine Gives.q ?_ (hsub_H1 (b := b0) (by first | exact hb0 | (simp only [hb0, nb0_b3, upd_app, seval]; done) | (simp only [hb0, nb0_b3, upd_app, seval]; rfl)))
      rfl
theorem typeOf_con (p : Pg) (b0 : Nat) (n : Nat) : ∀ e : Ex, e.sz ≤ n → e.ok → QCon env 109 [.ptr 11 b0 0 0, .agg e.row] (hpR p b0) (.int .i64 (tyE (wdF p) e)) := by
 induction n using Nat.strongRecOn with
 | _ n ih =>
   intro e hn he
   have hz := e.sz_eq
   have hfit := he.kids.fit
   have hkids := he.kids.all
   have hall : TpOk p b0 e.kids := fun x hx => ih x.sz (by have := szE_mem hx; omega) x (Nat.le_refl _) (hkids x hx)
   have hX := tyE_eq (wdF p) e
   have q1 := word_con e
   have q2 := both_con p b0 e hfit hall
   have q3 := index_con p b0 e hfit hall
   have q4 := op_con p b0 e hfit hall
   have q5 := call_con p b0 e hfit hall
   generalize tyE (wdF p) e = res at *
   generalize wdF p e.name = WD at *
   generalize allT (wdF p) e.kids 1 = A1 at *
   generalize allT (wdF p) e.kids 2 = A2 at *
   clear ih he hkids hall
   rw [e.row_eq] at *
   by_cases hk : 1 ≤ e.kind ∧ e.kind ≤ 9
   ·have z1 : decide (e.kind < 1) = false := decide_eq_false (by omega)
    have z2 : decide (9 < e.kind) = false := decide_eq_false (by omega)
    have hcase : e.kind = 1 ∨ e.kind = 2 ∨ e.kind = 3 ∨ e.kind = 4 ∨ e.kind = 5 ∨ e.kind = 6 ∨ e.kind = 7 ∨ e.kind = 8 ∨ e.kind = 9 := by omega
    obtain ⟨k, o, m, s, l⟩ := e
    simp only [Ex.kind, Ex.op, Ex.num, Ex.name, Ex.kids] at *
    rcases hcase with rfl | rfl | rfl | rfl | rfl | rfl | rfl | rfl | rfl
    all_goals
     simp only [Int.reduceEq, or_self, or_true, or_false, if_true, if_false] at hX
     subst hX
     refine con_of 22 [.tmp 4] Tryd.func109 rfl rfl rfl rfl ?_
     have hb0 : (hpR p b0) b0 = some (.rows 11 [rulesR p b0]) := H1_same _ _
     simp only [rulesR, imF] at hb0
     refine awp_seq_k fun K hK => ?_
     refine awp_region rfl ?_
     simp only [RR, seval]
     refine awpN_intro fun b3 hn3 => ?_
     have nb3_b0 : b3 ≠ b0 := fun e => by rw [e] at hn3; simp only [hb0, seval, reduceCtorEq] at hn3
     have nb0_b3 : b0 ≠ b3 := fun e => nb3_b0 e.symm
     simp only [RR, seval]
     refine hK _ _ ?_; clear hK K
     refine awp_seq ?_
     refine awp_seq_k fun K hK => ?_
     refine awp_region rfl ?_
     simp only [RR, seval]
     refine hK _ _ ?_; clear hK K
     refine awp_if false rfl (fun hc => by cases hc) (fun _ => ?_)
     refine awp_skip ?_; try simp only [RR]
     refine awp_seq_k fun K hK => ?_
     refine awp_region_draw2 (fun _ => True) [(0, 3), (1, 3), (2, 1), (3, 3), (4, 3), (5, 3), (6, 1), (7, 1), (8, 1), (9, 3)] [] draws (by kernel_rfl) rfl rfl ?_
     simp only [emitF, hb0, nb0_b3, RR, seval]
     first | (refine awpC_pure' q1 ?_) | (refine awpC_q1 (b := b0) q2 (by first | exact hb0 | (simp only [hb0, nb0_b3,  upd_app, seval]; done) | (simp only [hb0, nb0_b3,  upd_app, seval]; rfl)) (fun _ => trivial) ?_) | (refine awpC_q1 (b := b0) q3 (by first | exact hb0 | (simp only [hb0, nb0_b3,  upd_app, seval]; done) | (simp only [hb0, nb0_b3,  upd_app, seval]; rfl)) (fun _ => trivial) ?_) | (refine awpC_q1 (b := b0) q4 (by first | exact hb0 | (simp only [hb0, nb0_b3,  upd_app, seval]; done) | (simp only [hb0, nb0_b3,  upd_app, seval]; rfl)) (fun _ => trivial) ?_) | (refine awpC_q1 (b := b0) q5 (by first | exact hb0 | (simp only [hb0, nb0_b3,  upd_app, seval]; done) | (simp only [hb0, nb0_b3,  upd_app, seval]; rfl)) (fun _ => trivial) ?_)
     simp only [RR, seval]
     refine hK _ _ ?_; clear hK K
     refine awp_ret ?_; simp only [bodyQ, aresult, ares, RR, seval]
     refine Gives.q ?_ (hsub_H1 (b := b0) (by first | exact hb0 | (simp only [hb0, nb0_b3,  upd_app, seval]; done) | (simp only [hb0, nb0_b3,  upd_app, seval]; rfl)))
     rfl
   ·rw [if_neg (by omega), if_neg (by omega), if_neg (by omega), if_neg (by omega), if_neg (by omega)] at hX
    subst hX
    refine con_of 22 [.tmp 4] Tryd.func109 rfl rfl rfl rfl ?_
    have hb0 : (hpR p b0) b0 = some (.rows 11 [rulesR p b0]) := H1_same _ _
    simp only [rulesR, imF] at hb0
    refine awp_seq_k fun K hK => ?_
    refine awp_region rfl ?_
    simp only [RR, seval]
    refine awpN_intro fun b3 hn3 => ?_
    have nb3_b0 : b3 ≠ b0 := fun e => by rw [e] at hn3; simp only [hb0, seval, reduceCtorEq] at hn3
    have nb0_b3 : b0 ≠ b3 := fun e => nb3_b0 e.symm
    simp only [RR, seval]
    refine hK _ _ ?_; clear hK K
    refine awp_seq ?_
    refine awp_seq_k fun K hK => ?_
    refine awp_region rfl ?_
    simp only [RR, seval]
    repeat' ((first | refine awpG_splitN (fun h => ?_) (fun h => ?_) | refine awpG_split (fun h => ?_) (fun h => ?_)) <;> simp only [h, RR, seval])
    all_goals
     refine hK _ _ ?_; clear hK K
     refine awp_if _ rfl (fun hc1 => ?_) (fun hc1 => ?_)
     ·try (cases hc1; done)
      all_goals
       refine awp_seq_k fun K hK => ?_
       refine awp_region rfl ?_
       simp only [RR, seval]
       refine hK _ _ ?_; clear hK K
       refine awp_ret ?_; simp only [bodyQ, aresult, ares, RR, seval]
       refine Gives.q ?_ (hsub_H1 (b := b0) (by first | exact hb0 | (simp only [hb0, nb0_b3,  upd_app, seval]; done) | (simp only [hb0, nb0_b3,  upd_app, seval]; rfl)))
       rfl
     ·try (cases hc1; done)
      all_goals
       exfalso
       first | (have := of_decide_eq_false h; have := of_decide_eq_false hc1; omega) | (have := of_decide_eq_true h; omega)
end Go.Proofs.YtnfbbjhdflhmjaaDoor
namespace Go.Proofs.YtnfbbjhdflhmjaaDoor
open Go.Al
set_option maxHeartbeats 4000000 in
theorem allKnown_con (p : Pg) (b0 : Nat) (n : Nat) : ∀ l : List Sm, szS l ≤ n → okS l → QCon env 75 [.ptr 11 b0 0 0, .isl 5 (l.map Sm.row)] (hpR p b0) (.bool (knT (knF p) l)) := by
 induction n using Nat.strongRecOn with
 | _ n ih =>
   intro l hn hok
   have hfit := hok.fit
   have hE := fun (x : Ex) (h : x.ok) => known_con p b0 _ x (Nat.le_refl _) h
   have hkf := fun s => knF_firsts p s
   have hfi := fun s => afind_fu s (firsts p.funs) 0
   generalize knF p = K at *
   simp only [fitL] at hfit
   refine con_of 57 [.tmp 4] Tryd.func75 rfl rfl rfl rfl ?_
   have hb0 : (hpR p b0) b0 = some (.rows 11 [rulesR p b0]) := H1_same _ _
   simp only [rulesR, imF] at hb0
   refine awp_seq_k fun K hK => ?_
   refine awp_region rfl ?_
   simp only [RR, seval]
   refine hK _ _ ?_; clear hK K
   refine awp_seq ?_
   refine awp_seq_k fun K hK => ?_
   refine awp_region rfl ?_
   simp only [List.length_map, RR, seval]
   refine hK _ _ ?_; clear hK K
   refine awp_name fun F1 M1 hfr hH => ?_
   have g0 := hfr 0
   have g4 := hfr 4
   have g11 := hfr 11
   have g12 := hfr 12
   have g13 := hfr 13
   have gb0 := hH b0
   try simp only [hb0, RR, seval] at g0 g4 g11 g12 g13 gb0
   have f0 := g0; clear g0
   have f4 := g4; clear g4
   have f11 := g11; clear g11
   have f12 := g12; clear g12
   have f13 := g13; clear g13
   have hb0 := gb0; clear gb0
   clear hfr hH
   refine awp_block ?_
   refine awp_each [0, 11, 12] (l.length) (fun k fr M => fr 13 = .int .i64 (k : Nat) ∧ M b0 = M1 b0 ∧ knT K l = knT K (l.drop k)) ⟨f13, rfl, by rw [List.drop_zero]⟩ ?_
   rintro k F2 M2 hk0 ⟨fx, gb0, hall⟩ agx K0 hK0
   have f0 := (agx 0 rfl).trans f0
   have f11 := (agx 11 rfl).trans f11
   have f12 := (agx 12 rfl).trans f12
   have f13 := fx; clear fx
   have hb0 := gb0.trans hb0
   have ag0 := agree.refl [0, 11, 12] F2
   have e0_b0 := gb0; clear gb0
   clear agx
   refine awp_seq_k fun K hK => ?_
   refine awp_region rfl ?_
   simp only [f12, f13, RR, seval]
   refine hK _ _ ?_; clear hK K
   refine awp_seq ?_
   refine awp_if _ rfl (fun hc => ?_) (fun hc => ?_)
   ·have hlt0 : k < l.length := by have := of_decide_eq_true hc; omega
    clear hc
    have hg := getS (List.getElem?_eq_getElem hlt0)
    have hm := List.getElem_mem hlt0
    have hoe := hok.all _ hm
    have hsz := szS_mem hm
    rw [List.drop_eq_getElem_cons hlt0, knT_cons, knM_eq] at hall
    generalize l[k] = e at hg hall hoe hsz
    have hz := e.sz_eq
    have hT := ih (szS e.thn) (by omega) e.thn (Nat.le_refl _) hoe.thn
    have hU := ih (szS e.els) (by omega) e.els (Nat.le_refl _) hoe.els
    have hlok := hoe.es.all
    have hlfit := hoe.es.fit
    have hkn := hkf e.name
    have hfe := hfi e.name
    simp only [fitL] at hlfit
    generalize K e.name = K1 at hall hkn
    generalize knT K e.thn = K4 at hall hT
    generalize knT K e.els = K5 at hall hU
    obtain ⟨K6, z6⟩ : ∃ c, decide (e.kind = 6) = c := ⟨_, rfl⟩
    rw [z6] at hall
    refine awp_skip ?_; try simp only [RR]
    refine awp_seq ?_
    refine awp_block ?_
    refine awp_seq_k fun K hK => ?_
    refine awp_region rfl ?_
    simp only [f11, f13, hg, RR, seval]
    refine awpN_intro fun b6 hn6 => ?_
    have nb6_b0 : b6 ≠ b0 := fun e => by rw [e] at hn6; simp only [hb0, seval, reduceCtorEq] at hn6
    have nb0_b6 : b0 ≠ b6 := fun e => nb6_b0 e.symm
    simp only [RR, seval]
    refine hK _ _ ?_; clear hK K
    refine awp_seq ?_
    refine awp_seq_k fun K hK => ?_
    refine awp_region rfl ?_
    simp only [z6, RR, seval]
    refine hK _ _ ?_; clear hK K
    refine awp_name fun F3 M3 hfr hH => ?_
    have g0 := hfr 0
    have g4 := hfr 4
    have g6 := hfr 6
    have g11 := hfr 11
    have g12 := hfr 12
    have g13 := hfr 13
    have g19 := hfr 19
    have gb0 := hH b0
    have gb6 := hH b6
    try simp only [f0, f11, f12, f13, hb0, nb0_b6, RR, seval] at g0 g4 g6 g11 g12 g13 g19 gb0 gb6
    have ag0 : agree [0, 11, 12] F2 F3 := agree.same hfr (by repeat (first | exact ag0 | refine agree.upd rfl ?_))
    have e0_b0 := (hH b0).trans (by first | exact e0_b0 | (simp only [nb0_b6, upd_app, seval]; first | done | exact e0_b0))
    have f0 := g0; clear g0
    have f4 := g4; clear g4
    have f6 := g6; clear g6
    have f11 := g11; clear g11
    have f12 := g12; clear g12
    have f13 := g13; clear g13
    have f19 := g19; clear g19
    have hb0 := gb0; clear gb0
    have hb6 := gb6; clear gb6
    clear hfr hH
    refine awp_cutP (fun fr M => agree [0, 6, 11, 12, 13] F3 fr ∧ M b0 = M3 b0 ∧ M b6 = M3 b6 ∧ (!K6 || K1) = true) (fun KC4 hKC4 => ?_) ?_
    ·have agC4 := agree.refl [0, 6, 11, 12, 13] F3
     have eC4_b0 : M3 b0 = M3 b0 := rfl
     have eC4_b6 : M3 b6 = M3 b6 := rfl
     refine awp_if _ (by first | rfl | exact f19) (fun hc4 => ?_) (fun hc4 => ?_)
     ·try (cases hc4; done)
      all_goals
       rcases hfe with ⟨hl, hr⟩ | ⟨j, g, hl, hr⟩ <;> rw [hl] at hkn <;> subst hkn
       all_goals
        refine awp_seq_k fun K hK => ?_
        refine awp_region_draw2 (fun x => x ≠ b0 ∧ x ≠ b6) [(0, 3), (1, 3), (2, 3), (3, 0), (4, 3), (5, 0), (6, 0), (7, 3), (8, 3), (9, 3), (10, 1)] [(11, 1), (12, 3)] draws (by kernel_rfl) rfl rfl ?_
        simp only [emitF, markOf, EM, f0, f6, hb0, hb6, nb6_b0, nb0_b6, zip_pairs, Option.getD_some, Option.getD_none, Option.isSome_none, Option.isSome_some, hr, RR, seval]
        refine awpN_intro fun b7 hn7 => ?_
        have nb7_b0 : b7 ≠ b0 := fun e => by rw [e] at hn7; simp only [hb0, seval, reduceCtorEq] at hn7
        have nb0_b7 : b0 ≠ b7 := fun e => nb7_b0 e.symm
        have nb7_b6 : b7 ≠ b6 := fun e => by rw [e] at hn7; simp only [hb6, seval, reduceCtorEq] at hn7
        have nb6_b7 : b6 ≠ b7 := fun e => nb7_b6 e.symm
        simp only [RR, seval]
        refine hK _ _ ?_; clear hK K
        refine awp_seq_k fun K hK => ?_
        refine awp_region rfl ?_
        simp only [RR, seval]
        refine hK _ _ ?_; clear hK K
        refine awp_if _ rfl (fun hc6 => ?_) (fun hc6 => ?_)
        ·try (cases hc6; done)
         all_goals
          refine awp_seq_k fun K hK => ?_
          refine awp_region rfl ?_
          simp only [RR, seval]
          refine hK _ _ ?_; clear hK K
          refine awp_ret ?_; simp only [bodyQ, aresult, ares, RR, seval]
          refine Gives.q ?_ (hsub_H1 (b := b0) (by first | exact hb0 | (simp only [hb0, nb0_b7, upd_app, seval]; done) | (simp only [hb0, nb0_b7, upd_app, seval]; rfl)))
          rw [hall, hc4]
          simp
        ·try (cases hc6; done)
         all_goals
          refine awp_skip ?_; try simp only [RR]
          refine hKC4 _ _ ⟨(by repeat (first | exact agC4 | refine agree.upd rfl ?_)), (by first | exact eC4_b0 | (simp only [nb0_b7, upd_app, seval]; first | done | exact eC4_b0)), (by first | exact eC4_b6 | (simp only [nb6_b7, upd_app, seval]; first | done | exact eC4_b6)), by simp_all⟩
     ·try (cases hc4; done)
      all_goals
       refine awp_skip ?_; try simp only [RR]
       refine hKC4 _ _ ⟨(by repeat (first | exact agC4 | refine agree.upd rfl ?_)), (by first | exact eC4_b0 | (simp only [nb6_b0, nb0_b6, upd_app, seval]; first | done | exact eC4_b0)), (by first | exact eC4_b6 | (simp only [nb6_b0, nb0_b6, upd_app, seval]; first | done | exact eC4_b6)), by simp_all⟩
    rintro F4 M4 ⟨agx, gb0, gb6, hA⟩
    have f0 := (agx 0 rfl).trans f0
    have f6 := (agx 6 rfl).trans f6
    have f11 := (agx 11 rfl).trans f11
    have f12 := (agx 12 rfl).trans f12
    have f13 := (agx 13 rfl).trans f13
    have hb0 := gb0.trans hb0
    have hb6 := gb6.trans hb6
    have ag0 : agree [0, 11, 12] F2 F4 := agree.sub agx rfl ag0
    have e0_b0 := gb0.trans e0_b0
    clear agx
    clear gb0
    clear gb6
    simp only [RR, seval]
    rw [hA, Bool.true_and] at hall
    refine awp_seq ?_
    refine awp_seq_k fun K hK => ?_
    refine awp_region rfl ?_
    simp only [f6, hb6, List.length_map, RR, seval]
    refine hK _ _ ?_; clear hK K
    refine awp_name fun F5 M5 hfr hH => ?_
    have g0 := hfr 0
    have g4 := hfr 4
    have g6 := hfr 6
    have g8 := hfr 8
    have g11 := hfr 11
    have g12 := hfr 12
    have g13 := hfr 13
    have g33 := hfr 33
    have g34 := hfr 34
    have g35 := hfr 35
    have gb0 := hH b0
    have gb6 := hH b6
    try simp only [f0, f6, f11, f12, f13, hb0, hb6, RR, seval] at g0 g4 g6 g8 g11 g12 g13 g33 g34 g35 gb0 gb6
    have ag0 : agree [0, 11, 12] F2 F5 := agree.same hfr (by repeat (first | exact ag0 | refine agree.upd rfl ?_))
    have e0_b0 := (hH b0).trans (by first | exact e0_b0 | (simp only [nb6_b0, nb0_b6, upd_app, seval]; first | done | exact e0_b0))
    have f0 := g0; clear g0
    have f4 := g4; clear g4
    have f6 := g6; clear g6
    have f8 := g8; clear g8
    have f11 := g11; clear g11
    have f12 := g12; clear g12
    have f13 := g13; clear g13
    have f33 := g33; clear g33
    have f34 := g34; clear g34
    have f35 := g35; clear g35
    have hb0 := gb0; clear gb0
    have hb6 := gb6; clear gb6
    clear hfr hH
    refine awp_block ?_
    refine awp_each [0, 6, 8, 11, 12, 13, 33, 34] (e.es.length) (fun j fr M => fr 35 = .int .i64 (j : Nat) ∧ M b0 = M5 b0 ∧ M b6 = M5 b6 ∧ knL K e.es = knL K (e.es.drop j)) ⟨f35, rfl, rfl, by rw [List.drop_zero]⟩ ?_
    rintro j F6 M6 hk2 ⟨fx, gb0, gb6, hal2⟩ agx K2 hK2
    have f0 := (agx 0 rfl).trans f0
    have f6 := (agx 6 rfl).trans f6
    have f8 := (agx 8 rfl).trans f8
    have f11 := (agx 11 rfl).trans f11
    have f12 := (agx 12 rfl).trans f12
    have f13 := (agx 13 rfl).trans f13
    have f33 := (agx 33 rfl).trans f33
    have f34 := (agx 34 rfl).trans f34
    have f35 := fx; clear fx
    have hb0 := gb0.trans hb0
    have hb6 := gb6.trans hb6
    have ag0 : agree [0, 11, 12] F2 F6 := agree.sub agx rfl ag0
    have e0_b0 := gb0.trans e0_b0
    have ag2 := agree.refl [0, 6, 8, 11, 12, 13, 33, 34] F6
    have e2_b0 := gb0; clear gb0
    have e2_b6 := gb6; clear gb6
    clear agx
    refine awp_seq_k fun K hK => ?_
    refine awp_region rfl ?_
    simp only [f34, f35, RR, seval]
    refine hK _ _ ?_; clear hK K
    refine awp_seq ?_
    refine awp_if _ rfl (fun hc => ?_) (fun hc => ?_)
    ·have hlt2 : j < e.es.length := by have := of_decide_eq_true hc; omega
     clear hc
     have hgx := getE (List.getElem?_eq_getElem hlt2)
     have hmx := hE _ (hlok _ (List.getElem_mem hlt2))
     rw [List.drop_eq_getElem_cons hlt2, knL_cons] at hal2
     generalize e.es[j] = x at hgx hal2 hmx
     rw [x.row_eq] at hmx
     generalize knE K x = KK at hal2 hmx
     refine awp_skip ?_; try simp only [RR]
     refine awp_seq ?_
     refine awp_block ?_
     refine awp_seq_k fun K hK => ?_
     refine awp_region rfl ?_
     simp only [f33, f35, hgx, RR, seval]
     refine awpN_intro fun b10 hn10 => ?_
     have nb10_b0 : b10 ≠ b0 := fun e => by rw [e] at hn10; simp only [hb0, seval, reduceCtorEq] at hn10
     have nb0_b10 : b0 ≠ b10 := fun e => nb10_b0 e.symm
     have nb10_b6 : b10 ≠ b6 := fun e => by rw [e] at hn10; simp only [hb6, seval, reduceCtorEq] at hn10
     have nb6_b10 : b6 ≠ b10 := fun e => nb10_b6 e.symm
     simp only [RR, seval]
     refine hK _ _ ?_; clear hK K
     refine awp_seq_k fun K hK => ?_
     refine awp_region rfl ?_
     simp only [f0, RR, seval]
     refine awpC_q1 (b := b0) hmx (by first | exact hb0 | (simp only [hb0, nb0_b10, upd_app, seval]; done) | (simp only [hb0, nb0_b10, upd_app, seval]; rfl)) (fun _ => trivial) ?_
     simp only [RR, seval]
     refine hK _ _ ?_; clear hK K
     refine awp_if _ rfl (fun hc11 => ?_) (fun hc11 => ?_)
     ·try (cases hc11; done)
      all_goals
       refine awp_seq_k fun K hK => ?_
       refine awp_region rfl ?_
       simp only [RR, seval]
       refine hK _ _ ?_; clear hK K
       refine awp_ret ?_; simp only [bodyQ, aresult, ares, RR, seval]
       refine Gives.q ?_ (hsub_H1 (b := b0) (by first | exact hb0 | (simp only [hb0, nb0_b10, upd_app, seval]; done) | (simp only [hb0, nb0_b10, upd_app, seval]; rfl)))
       rw [hall, hal2, show KK = false by simpa using hc11]
       simp
     ·try (cases hc11; done)
      all_goals
       refine awp_skip ?_; try simp only [RR]
       refine awp_region rfl ?_
       simp only [f35, RR, seval]
       try rw [IntWalk.i64_in _ (by omega)]
       refine hK2 _ _ hlt2 ⟨by first | rfl | (simp only [upd_app, seval]; rfl), (by first | exact e2_b0 | (simp only [nb0_b10, upd_app, seval]; first | done | exact e2_b0)), (by first | exact e2_b6 | (simp only [nb6_b10, upd_app, seval]; first | done | exact e2_b6)), by rw [hal2, show KK = true by simpa using hc11, Bool.true_and]⟩ (by repeat (first | exact ag2 | refine agree.upd rfl ?_))
    ·have hkn2 : j = e.es.length := by have := of_decide_eq_false hc; omega
     clear hc
     rw [hkn2, List.drop_length, knL_nil] at hal2
     rw [hal2, Bool.true_and] at hall
     refine awp_exit ?_; simp only [RR, seval]
     refine awp_seq_k fun K hK => ?_
     refine awp_region rfl ?_
     simp only [f0, f6, hb6, RR, seval]
     all_goals try (refine awpC_q1 (b := b0) hT (by first | exact hb0 | (simp only [f0, f6, f8, f11, f12, f13, f33, f34, f35, hb0, hb6, nb6_b0, nb0_b6, List.length_map, zip_pairs, Option.getD_some, Option.getD_none, Option.isSome_none, Option.isSome_some, hg, z6,  upd_app, seval]; done) | (simp only [f0, f6, f8, f11, f12, f13, f33, f34, f35, hb0, hb6, nb6_b0, nb0_b6, List.length_map, zip_pairs, Option.getD_some, Option.getD_none, Option.isSome_none, Option.isSome_some, hg, z6,  upd_app, seval]; rfl)) (fun _ => trivial) ?_; simp only [RR, seval])
     all_goals try ((first | refine awpG_splitN (fun h => ?_) (fun h => ?_) | refine awpG_split (fun h => ?_) (fun h => ?_)) <;> simp only [h, f0, f6, hb6, RR, seval])
     all_goals try (refine awpC_q1 (b := b0) hU (by first | exact hb0 | (simp only [f0, f6, f8, f11, f12, f13, f33, f34, f35, hb0, hb6, nb6_b0, nb0_b6, List.length_map, zip_pairs, Option.getD_some, Option.getD_none, Option.isSome_none, Option.isSome_some, hg, z6,  upd_app, seval]; done) | (simp only [f0, f6, f8, f11, f12, f13, f33, f34, f35, hb0, hb6, nb6_b0, nb0_b6, List.length_map, zip_pairs, Option.getD_some, Option.getD_none, Option.isSome_none, Option.isSome_some, hg, z6,  upd_app, seval]; rfl)) (fun _ => trivial) ?_; simp only [RR, seval])
     all_goals
      refine hK _ _ ?_; clear hK K
      refine awp_if _ rfl (fun hc14 => ?_) (fun hc14 => ?_)
      ·try (cases hc14; done)
       all_goals
        refine awp_seq_k fun K hK => ?_
        refine awp_region rfl ?_
        simp only [RR, seval]
        refine hK _ _ ?_; clear hK K
        refine awp_ret ?_; simp only [bodyQ, aresult, ares, RR, seval]
        refine Gives.q ?_ (hsub_H1 (b := b0) (by first | exact hb0 | (simp only [f0, f6, f8, f11, f12, f13, f33, f34, f35, hb0, hb6, nb6_b0, nb0_b6, List.length_map, zip_pairs, Option.getD_some, Option.getD_none, Option.isSome_none, Option.isSome_some, hg, z6,  upd_app, seval]; done) | (simp only [f0, f6, f8, f11, f12, f13, f33, f34, f35, hb0, hb6, nb6_b0, nb0_b6, List.length_map, zip_pairs, Option.getD_some, Option.getD_none, Option.isSome_none, Option.isSome_some, hg, z6,  upd_app, seval]; rfl)))
        rw [hall]
        clear hT hU hE hkf hfi hfe ih
        simp_all
      ·try (cases hc14; done)
       all_goals
        refine awp_skip ?_; try simp only [RR]
        refine awp_region rfl ?_
        simp only [f13, RR, seval]
        try rw [IntWalk.i64_in _ (by omega)]
        refine hK0 _ _ hlt0 ⟨by first | rfl | (simp only [upd_app, seval]; rfl), (by first | exact e0_b0 | (simp only [nb6_b0, nb0_b6, upd_app, seval]; first | done | exact e0_b0)), by rw [hall]; clear hT hU hE hkf hfi hfe ih; simp_all⟩ (by repeat (first | exact ag0 | refine agree.upd rfl ?_))
   ·have hkn0 : k = l.length := by have := of_decide_eq_false hc; omega
    clear hc
    refine awp_exit ?_; simp only [RR, seval]
    refine awp_seq_k fun K hK => ?_
    refine awp_region rfl ?_
    simp only [RR, seval]
    refine hK _ _ ?_; clear hK K
    refine awp_ret ?_; simp only [bodyQ, aresult, ares, RR, seval]
    refine Gives.q ?_ (hsub_H1 (b := b0) (by first | exact hb0 | (simp only [f0, f11, f12, f13, hb0, List.length_map, zip_pairs, Option.getD_some, Option.getD_none, Option.isSome_none, Option.isSome_some,  upd_app, seval]; done) | (simp only [f0, f11, f12, f13, hb0, List.length_map, zip_pairs, Option.getD_some, Option.getD_none, Option.isSome_none, Option.isSome_some,  upd_app, seval]; rfl)))
    rw [hall, hkn0, List.drop_length, knT_nil]
end Go.Proofs.YtnfbbjhdflhmjaaDoor
namespace Go.Proofs.YtnfbbjhdflhmjaaDoor
open Go.Al
set_option maxHeartbeats 4000000 in
theorem allRight_con (p : Pg) (b0 : Nat) (f : Fu) (n : Nat) : ∀ l : List Sm, szS l ≤ n → okS l → QCon env 76 [.ptr 11 b0 0 0, .agg f.row, .isl 5 (l.map Sm.row)] (hpR p b0) (.bool (fitT (wdF p) f.word l)) := by
 induction n using Nat.strongRecOn with
 | _ n ih =>
   intro l hn hok
   have hfit := hok.fit
   have hAl := fun (x : List Ex) (h : okE x) (t : Int) => all_con p b0 x h.fit t fun e he => typeOf_con p b0 _ e (Nat.le_refl _) (h.all e he)
   have hwf := fun s => wdF_firsts p s
   have hfi := fun s => afind_fu s (firsts p.funs) 0
   generalize wdF p = W at *
   obtain ⟨fn, fp, fl, w, fb⟩ := f
   simp only [fitL, Fu.row] at *
   refine con_of 65 [.tmp 6] Tryd.func76 rfl rfl rfl rfl ?_
   have hb0 : (hpR p b0) b0 = some (.rows 11 [rulesR p b0]) := H1_same _ _
   simp only [rulesR, imF] at hb0
   refine awp_seq_k fun K hK => ?_
   refine awp_region rfl ?_
   simp only [RR, seval]
   refine awpN_intro fun b4 hn4 => ?_
   have nb4_b0 : b4 ≠ b0 := fun e => by rw [e] at hn4; simp only [hb0, seval, reduceCtorEq] at hn4
   have nb0_b4 : b0 ≠ b4 := fun e => nb4_b0 e.symm
   simp only [RR, seval]
   refine hK _ _ ?_; clear hK K
   refine awp_seq ?_
   refine awp_seq_k fun K hK => ?_
   refine awp_region rfl ?_
   simp only [List.length_map, RR, seval]
   refine hK _ _ ?_; clear hK K
   refine awp_name fun F1 M1 hfr hH => ?_
   have g0 := hfr 0
   have g4 := hfr 4
   have g6 := hfr 6
   have g10 := hfr 10
   have g11 := hfr 11
   have g12 := hfr 12
   have gb0 := hH b0
   have gb4 := hH b4
   try simp only [hb0, nb0_b4, RR, seval] at g0 g4 g6 g10 g11 g12 gb0 gb4
   have f0 := g0; clear g0
   have f4 := g4; clear g4
   have f6 := g6; clear g6
   have f10 := g10; clear g10
   have f11 := g11; clear g11
   have f12 := g12; clear g12
   have hb0 := gb0; clear gb0
   have hb4 := gb4; clear gb4
   clear hfr hH
   refine awp_block ?_
   refine awp_each [0, 4, 10, 11] (l.length) (fun k fr M => fr 12 = .int .i64 (k : Nat) ∧ M b0 = M1 b0 ∧ M b4 = M1 b4 ∧ fitT W w l = fitT W w (l.drop k)) ⟨f12, rfl, rfl, by rw [List.drop_zero]⟩ ?_
   rintro k F2 M2 hk0 ⟨fx, gb0, gb4, hall⟩ agx K0 hK0
   have f0 := (agx 0 rfl).trans f0
   have f4 := (agx 4 rfl).trans f4
   have f10 := (agx 10 rfl).trans f10
   have f11 := (agx 11 rfl).trans f11
   have f12 := fx; clear fx
   have hb0 := gb0.trans hb0
   have hb4 := gb4.trans hb4
   have ag0 := agree.refl [0, 4, 10, 11] F2
   have e0_b0 := gb0; clear gb0
   have e0_b4 := gb4; clear gb4
   clear agx
   refine awp_seq_k fun K hK => ?_
   refine awp_region rfl ?_
   simp only [f11, f12, RR, seval]
   refine hK _ _ ?_; clear hK K
   refine awp_seq ?_
   refine awp_if _ rfl (fun hc => ?_) (fun hc => ?_)
   ·have hlt0 : k < l.length := by have := of_decide_eq_true hc; omega
    clear hc
    have hg := getS (List.getElem?_eq_getElem hlt0)
    have hm := List.getElem_mem hlt0
    have hoe := hok.all _ hm
    have hsz := szS_mem hm
    rw [List.drop_eq_getElem_cons hlt0, fitT_cons, fitM_eq] at hall
    generalize l[k] = e at hg hall hoe hsz
    have hz := e.sz_eq
    have hE := hAl e.es hoe.es (wantS e.kind)
    have hT := ih (szS e.thn) (by omega) e.thn (Nat.le_refl _) hoe.thn
    have hU := ih (szS e.els) (by omega) e.els (Nat.le_refl _) hoe.els
    have hwd := hwf e.name
    have hfe := hfi e.name
    have hw1 : (e.kind = 4 ∨ e.kind = 5) → wantS e.kind = 2 := fun h => by simp only [wantS, if_pos h]
    have hw2 : ¬ (e.kind = 4 ∨ e.kind = 5) → wantS e.kind = 1 := fun h => by simp only [wantS, if_neg h]
    generalize W e.name = WD at hall hwd
    generalize allT W e.es (wantS e.kind) = A at hall hE
    generalize fitT W w e.thn = K4 at hall hT
    generalize fitT W w e.els = K5 at hall hU
    generalize wantS e.kind = ws at *
    have hlen : decide ((0 : Int) < (e.es.length : Int)) = decide (0 < e.es.length) := by rw [Bool.eq_iff_iff]; simp only [decide_eq_true_eq]; omega
    obtain ⟨K8, z8⟩ : ∃ b, decide (0 < e.es.length) = b := ⟨_, rfl⟩
    rw [z8] at hall
    clear ih hAl hok hm hfi hwf hoe
    refine awp_skip ?_; try simp only [RR]
    refine awp_seq ?_
    refine awp_block ?_
    refine awp_seq_k fun K hK => ?_
    refine awp_region rfl ?_
    simp only [f10, f12, hg, RR, seval]
    refine awpN_intro fun b8 hn8 => ?_
    have nb8_b0 : b8 ≠ b0 := fun e => by rw [e] at hn8; simp only [hb0, seval, reduceCtorEq] at hn8
    have nb0_b8 : b0 ≠ b8 := fun e => nb8_b0 e.symm
    have nb8_b4 : b8 ≠ b4 := fun e => by rw [e] at hn8; simp only [hb4, seval, reduceCtorEq] at hn8
    have nb4_b8 : b4 ≠ b8 := fun e => nb8_b4 e.symm
    simp only [RR, seval]
    refine hK _ _ ?_; clear hK K
    refine awp_seq_k fun K hK => ?_
    refine awp_region rfl ?_
    simp only [RR, seval]
    refine hK _ _ ?_; clear hK K
    refine awp_seq ?_
    refine awp_seq_k fun K hK => ?_
    refine awp_region rfl ?_
    simp only [RR, seval]
    refine hK _ _ ?_; clear hK K
    refine awp_name fun F3 M3 hfr hH => ?_
    have g0 := hfr 0
    have g4 := hfr 4
    have g6 := hfr 6
    have g8 := hfr 8
    have g9 := hfr 9
    have g10 := hfr 10
    have g11 := hfr 11
    have g12 := hfr 12
    have g17 := hfr 17
    have gb0 := hH b0
    have gb4 := hH b4
    have gb8 := hH b8
    try simp only [f0, f4, f10, f11, f12, hb0, hb4, nb0_b8, nb4_b8, RR, seval] at g0 g4 g6 g8 g9 g10 g11 g12 g17 gb0 gb4 gb8
    have ag0 : agree [0, 4, 10, 11] F2 F3 := agree.same hfr (by repeat (first | exact ag0 | refine agree.upd rfl ?_))
    have e0_b0 := (hH b0).trans (by first | exact e0_b0 | (simp only [nb0_b8, upd_app, seval]; first | done | exact e0_b0))
    have e0_b4 := (hH b4).trans (by first | exact e0_b4 | (simp only [nb4_b8, upd_app, seval]; first | done | exact e0_b4))
    have f0 := g0; clear g0
    have f4 := g4; clear g4
    have f6 := g6; clear g6
    have f8 := g8; clear g8
    have f9 := g9; clear g9
    have f10 := g10; clear g10
    have f11 := g11; clear g11
    have f12 := g12; clear g12
    have f17 := g17; clear g17
    have hb0 := gb0; clear gb0
    have hb4 := gb4; clear gb4
    have hb8 := gb8; clear gb8
    clear hfr hH
    refine awp_cutP (fun fr M => agree [0, 4, 8, 10, 11, 12, 17] F3 fr ∧ M b0 = M3 b0 ∧ M b4 = M3 b4 ∧ M b8 = M3 b8 ∧ fr 9 = .int .i64 ws ∧ (!(decide (e.kind = 6) && WD)) = true ∧ (!(decide (e.kind = 7) && K8 && !w)) = true) (fun KB2 hKB2 => ?_) ?_
    ·have agB2 := agree.refl [0, 4, 8, 10, 11, 12, 17] F3
     have eB2_b0 : M3 b0 = M3 b0 := rfl
     have eB2_b4 : M3 b4 = M3 b4 := rfl
     have eB2_b8 : M3 b8 = M3 b8 := rfl
     refine awp_block ?_
     refine awp_seq ?_
     refine awp_seq_k fun K hK => ?_
     refine awp_region rfl ?_
     simp only [f17, RR, seval]
     refine hK _ _ ?_; clear hK K
     refine awp_name fun F4 M4 hfr hH => ?_
     have g0 := hfr 0
     have g4 := hfr 4
     have g6 := hfr 6
     have g8 := hfr 8
     have g9 := hfr 9
     have g10 := hfr 10
     have g11 := hfr 11
     have g12 := hfr 12
     have g17 := hfr 17
     have g18 := hfr 18
     have gb0 := hH b0
     have gb4 := hH b4
     have gb8 := hH b8
     try simp only [f0, f4, f6, f8, f9, f10, f11, f12, f17, hb0, hb4, hb8, RR, seval] at g0 g4 g6 g8 g9 g10 g11 g12 g17 g18 gb0 gb4 gb8
     have ag0 : agree [0, 4, 10, 11] F2 F4 := agree.same hfr (by repeat (first | exact ag0 | refine agree.upd rfl ?_))
     have e0_b0 := (hH b0).trans (by first | exact e0_b0 | (simp only [nb4_b0, nb0_b4, nb8_b0, nb0_b8, nb8_b4, nb4_b8, upd_app, seval]; first | done | exact e0_b0))
     have e0_b4 := (hH b4).trans (by first | exact e0_b4 | (simp only [nb4_b0, nb0_b4, nb8_b0, nb0_b8, nb8_b4, nb4_b8, upd_app, seval]; first | done | exact e0_b4))
     have agB2 : agree [0, 4, 8, 10, 11, 12, 17] F3 F4 := agree.same hfr (by repeat (first | exact agB2 | refine agree.upd rfl ?_))
     have eB2_b0 := (hH b0).trans (by first | exact eB2_b0 | (simp only [nb4_b0, nb0_b4, nb8_b0, nb0_b8, nb8_b4, nb4_b8, upd_app, seval]; first | done | exact eB2_b0))
     have eB2_b4 := (hH b4).trans (by first | exact eB2_b4 | (simp only [nb4_b0, nb0_b4, nb8_b0, nb0_b8, nb8_b4, nb4_b8, upd_app, seval]; first | done | exact eB2_b4))
     have eB2_b8 := (hH b8).trans (by first | exact eB2_b8 | (simp only [nb4_b0, nb0_b4, nb8_b0, nb0_b8, nb8_b4, nb4_b8, upd_app, seval]; first | done | exact eB2_b8))
     have f0 := g0; clear g0
     have f4 := g4; clear g4
     have f6 := g6; clear g6
     have f8 := g8; clear g8
     have f9 := g9; clear g9
     have f10 := g10; clear g10
     have f11 := g11; clear g11
     have f12 := g12; clear g12
     have f17 := g17; clear g17
     have f18 := g18; clear g18
     have hb0 := gb0; clear gb0
     have hb4 := gb4; clear gb4
     have hb8 := gb8; clear gb8
     clear hfr hH
     refine awp_cutP (fun fr M => agree [0, 4, 6, 8, 9, 10, 11, 12, 17] F4 fr ∧ M b0 = M4 b0 ∧ M b4 = M4 b4 ∧ M b8 = M4 b8 ∧ fr 18 = .bool (decide (e.kind = 4 ∨ e.kind = 5))) (fun KC6 hKC6 => ?_) ?_
     ·have agC6 := agree.refl [0, 4, 6, 8, 9, 10, 11, 12, 17] F4
      have eC6_b0 : M4 b0 = M4 b0 := rfl
      have eC6_b4 : M4 b4 = M4 b4 := rfl
      have eC6_b8 : M4 b8 = M4 b8 := rfl
      refine awp_if _ (by first | rfl | exact f18) (fun hc6 => ?_) (fun hc6 => ?_)
      ·try (cases hc6; done)
       all_goals
        refine awp_skip ?_; try simp only [RR]
        refine hKC6 _ _ ⟨(by repeat (first | exact agC6 | refine agree.upd rfl ?_)), (by first | exact eC6_b0 | (simp only [nb4_b0, nb0_b4, nb8_b0, nb0_b8, nb8_b4, nb4_b8, upd_app, seval]; first | done | exact eC6_b0)), (by first | exact eC6_b4 | (simp only [nb4_b0, nb0_b4, nb8_b0, nb0_b8, nb8_b4, nb4_b8, upd_app, seval]; first | done | exact eC6_b4)), (by first | exact eC6_b8 | (simp only [nb4_b0, nb0_b4, nb8_b0, nb0_b8, nb8_b4, nb4_b8, upd_app, seval]; first | done | exact eC6_b8)), ?_⟩
        first | (rw [f18, hc6]; simp [of_decide_eq_true hc6]) | (simp only [upd_app, seval]; simp [of_decide_eq_false hc6])
      ·try (cases hc6; done)
       all_goals
        refine awp_region rfl ?_
        simp only [f17, RR, seval]
        refine hKC6 _ _ ⟨(by repeat (first | exact agC6 | refine agree.upd rfl ?_)), (by first | exact eC6_b0 | (simp only [nb4_b0, nb0_b4, nb8_b0, nb0_b8, nb8_b4, nb4_b8, upd_app, seval]; first | done | exact eC6_b0)), (by first | exact eC6_b4 | (simp only [nb4_b0, nb0_b4, nb8_b0, nb0_b8, nb8_b4, nb4_b8, upd_app, seval]; first | done | exact eC6_b4)), (by first | exact eC6_b8 | (simp only [nb4_b0, nb0_b4, nb8_b0, nb0_b8, nb8_b4, nb4_b8, upd_app, seval]; first | done | exact eC6_b8)), ?_⟩
        first | (rw [f18, hc6]; simp [of_decide_eq_true hc6]) | (simp only [upd_app, seval]; simp [of_decide_eq_false hc6])
     rintro F5 M5 ⟨agx, gb0, gb4, gb8, f18⟩
     have f0 := (agx 0 rfl).trans f0
     have f4 := (agx 4 rfl).trans f4
     have f6 := (agx 6 rfl).trans f6
     have f8 := (agx 8 rfl).trans f8
     have f9 := (agx 9 rfl).trans f9
     have f10 := (agx 10 rfl).trans f10
     have f11 := (agx 11 rfl).trans f11
     have f12 := (agx 12 rfl).trans f12
     have f17 := (agx 17 rfl).trans f17
     have hb0 := gb0.trans hb0
     have hb4 := gb4.trans hb4
     have hb8 := gb8.trans hb8
     have ag0 : agree [0, 4, 10, 11] F2 F5 := agree.sub agx rfl ag0
     have e0_b0 := gb0.trans e0_b0
     have e0_b4 := gb4.trans e0_b4
     have agB2 : agree [0, 4, 8, 10, 11, 12, 17] F3 F5 := agree.sub agx rfl agB2
     have eB2_b0 := gb0.trans eB2_b0
     have eB2_b4 := gb4.trans eB2_b4
     have eB2_b8 := gb8.trans eB2_b8
     clear agx
     clear gb0
     clear gb4
     clear gb8
     simp only [RR, seval]
     refine awp_if _ (by first | rfl | exact f18) (fun hc7 => ?_) (fun hc7 => ?_)
     ·try (cases hc7; done)
      all_goals
       refine awp_region rfl ?_
       simp only [RR, seval]
       refine hKB2 _ _ ⟨(by repeat (first | exact agB2 | refine agree.upd rfl ?_)), (by first | exact eB2_b0 | (simp only [nb4_b0, nb0_b4, nb8_b0, nb0_b8, nb8_b4, nb4_b8, upd_app, seval]; first | done | exact eB2_b0)), (by first | exact eB2_b4 | (simp only [nb4_b0, nb0_b4, nb8_b0, nb0_b8, nb8_b4, nb4_b8, upd_app, seval]; first | done | exact eB2_b4)), (by first | exact eB2_b8 | (simp only [nb4_b0, nb0_b4, nb8_b0, nb0_b8, nb8_b4, nb4_b8, upd_app, seval]; first | done | exact eB2_b8)), ?_⟩
       clear hT hU hE hall
       try clear hfe
       refine ⟨?_, ?_, ?_⟩
       ·first | (simp only [upd_app, seval]; rw [hw1 (of_decide_eq_true hc7)]; done) | (simp only [upd_app, seval, f9]; rw [hw2 (of_decide_eq_false hc7)])
       ·first | (have hq := of_decide_eq_true hc7; rw [decide_eq_false (show ¬ e.kind = 6 by omega)]; rfl) | simp_all
       ·first | (have hq := of_decide_eq_true hc7; rw [decide_eq_false (show ¬ e.kind = 7 by omega)]; rfl) | (have hq := of_decide_eq_true hc9; rw [decide_eq_false (show ¬ e.kind = 7 by omega)]; rfl) | simp_all
     ·try (cases hc7; done)
      all_goals
       refine awp_seq_k fun K hK => ?_
       refine awp_region rfl ?_
       simp only [f17, RR, seval]
       refine hK _ _ ?_; clear hK K
       refine awp_if _ rfl (fun hc9 => ?_) (fun hc9 => ?_)
       ·try (cases hc9; done)
        all_goals
         rcases hfe with ⟨hl, hr⟩ | ⟨j, g, hl, hr⟩ <;> rw [hl] at hwd <;> simp only at hwd <;> subst hwd
         all_goals
          refine awp_seq_k fun K hK => ?_
          refine awp_region_draw2 (fun x => x ≠ b0 ∧ x ≠ b4 ∧ x ≠ b8) [(0, 3), (1, 3), (2, 3), (3, 1), (4, 3), (5, 1), (6, 1), (7, 3)] [] draws (by kernel_rfl) rfl rfl ?_
          simp only [emitF, f0, f8, hb0, hb8, zip_pairs, Option.getD_some, Option.getD_none, hr, RR, seval]
          refine hK _ _ ?_; clear hK K
          refine awp_if _ rfl (fun hc10 => ?_) (fun hc10 => ?_)
          ·try (cases hc10; done)
           all_goals
            refine awp_seq_k fun K hK => ?_
            refine awp_region rfl ?_
            simp only [RR, seval]
            refine hK _ _ ?_; clear hK K
            refine awp_ret ?_; simp only [bodyQ, aresult, ares, RR, seval]
            refine Gives.q ?_ (hsub_H1 (b := b0) (by first | exact hb0 | (simp only [f0, f4, f6, f8, f9, f10, f11, f12, f17, f18, hb0, hb4, hb8, nb4_b0, nb0_b4, nb8_b0, nb0_b8, nb8_b4, nb4_b8, List.length_map, zip_pairs, Option.getD_some, Option.getD_none, Option.isSome_none, Option.isSome_some, hg, hlen, z8, hr,  upd_app, seval]; done) | (simp only [f0, f4, f6, f8, f9, f10, f11, f12, f17, f18, hb0, hb4, hb8, nb4_b0, nb0_b4, nb8_b0, nb0_b8, nb8_b4, nb4_b8, List.length_map, zip_pairs, Option.getD_some, Option.getD_none, Option.isSome_none, Option.isSome_some, hg, hlen, z8, hr,  upd_app, seval]; rfl)))
            rw [hall]
            clear hT hU hE hw1 hw2 hr
            simp_all
          ·try (cases hc10; done)
           all_goals
            refine awp_skip ?_; try simp only [RR]
            refine hKB2 _ _ ⟨(by repeat (first | exact agB2 | refine agree.upd rfl ?_)), (by first | exact eB2_b0 | (simp only [nb4_b0, nb0_b4, nb8_b0, nb0_b8, nb8_b4, nb4_b8, upd_app, seval]; first | done | exact eB2_b0)), (by first | exact eB2_b4 | (simp only [nb4_b0, nb0_b4, nb8_b0, nb0_b8, nb8_b4, nb4_b8, upd_app, seval]; first | done | exact eB2_b4)), (by first | exact eB2_b8 | (simp only [nb4_b0, nb0_b4, nb8_b0, nb0_b8, nb8_b4, nb4_b8, upd_app, seval]; first | done | exact eB2_b8)), ?_⟩
            clear hT hU hE hall
            try clear hfe
            refine ⟨?_, ?_, ?_⟩
            ·first | (simp only [upd_app, seval]; rw [hw1 (of_decide_eq_true hc7)]; done) | (simp only [upd_app, seval, f9]; rw [hw2 (of_decide_eq_false hc7)])
            ·first | (have hq := of_decide_eq_true hc7; rw [decide_eq_false (show ¬ e.kind = 6 by omega)]; rfl) | simp_all
            ·first | (have hq := of_decide_eq_true hc7; rw [decide_eq_false (show ¬ e.kind = 7 by omega)]; rfl) | (have hq := of_decide_eq_true hc9; rw [decide_eq_false (show ¬ e.kind = 7 by omega)]; rfl) | simp_all
       ·try (cases hc9; done)
        all_goals
         refine awp_seq_k fun K hK => ?_
         refine awp_region rfl ?_
         simp only [f17, RR, seval]
         refine hK _ _ ?_; clear hK K
         refine awp_if _ rfl (fun hc12 => ?_) (fun hc12 => ?_)
         ·try (cases hc12; done)
          all_goals
           refine awp_seq_k fun K hK => ?_
           refine awp_region rfl ?_
           simp only [f8, hb8, List.length_map, hlen, z8, RR, seval]
           repeat' ((first | refine awpG_splitN (fun h => ?_) (fun h => ?_) | refine awpG_split (fun h => ?_) (fun h => ?_)) <;> simp only [h, f4, hb4, RR, seval])
           all_goals
            refine hK _ _ ?_; clear hK K
            refine awp_if _ rfl (fun hc13 => ?_) (fun hc13 => ?_)
            ·try (cases hc13; done)
             all_goals
              refine awp_seq_k fun K hK => ?_
              refine awp_region rfl ?_
              simp only [RR, seval]
              refine hK _ _ ?_; clear hK K
              refine awp_ret ?_; simp only [bodyQ, aresult, ares, RR, seval]
              refine Gives.q ?_ (hsub_H1 (b := b0) (by first | exact hb0 | (simp only [f0, f4, f6, f8, f9, f10, f11, f12, f17, f18, hb0, hb4, hb8, nb4_b0, nb0_b4, nb8_b0, nb0_b8, nb8_b4, nb4_b8, List.length_map, zip_pairs, Option.getD_some, Option.getD_none, Option.isSome_none, Option.isSome_some, hg, hlen, z8,  upd_app, seval]; done) | (simp only [f0, f4, f6, f8, f9, f10, f11, f12, f17, f18, hb0, hb4, hb8, nb4_b0, nb0_b4, nb8_b0, nb0_b8, nb8_b4, nb4_b8, List.length_map, zip_pairs, Option.getD_some, Option.getD_none, Option.isSome_none, Option.isSome_some, hg, hlen, z8,  upd_app, seval]; rfl)))
              rw [hall]
              clear hT hU hE hfe hw1 hw2
              simp_all
            ·try (cases hc13; done)
             all_goals
              refine awp_skip ?_; try simp only [RR]
              refine hKB2 _ _ ⟨(by repeat (first | exact agB2 | refine agree.upd rfl ?_)), (by first | exact eB2_b0 | (simp only [nb4_b0, nb0_b4, nb8_b0, nb0_b8, nb8_b4, nb4_b8, upd_app, seval]; first | done | exact eB2_b0)), (by first | exact eB2_b4 | (simp only [nb4_b0, nb0_b4, nb8_b0, nb0_b8, nb8_b4, nb4_b8, upd_app, seval]; first | done | exact eB2_b4)), (by first | exact eB2_b8 | (simp only [nb4_b0, nb0_b4, nb8_b0, nb0_b8, nb8_b4, nb4_b8, upd_app, seval]; first | done | exact eB2_b8)), ?_⟩
              clear hT hU hE hall
              try clear hfe
              refine ⟨?_, ?_, ?_⟩
              ·first | (simp only [upd_app, seval]; rw [hw1 (of_decide_eq_true hc7)]; done) | (simp only [upd_app, seval, f9]; rw [hw2 (of_decide_eq_false hc7)])
              ·first | (have hq := of_decide_eq_true hc7; rw [decide_eq_false (show ¬ e.kind = 6 by omega)]; rfl) | simp_all
              ·first | (have hq := of_decide_eq_true hc7; rw [decide_eq_false (show ¬ e.kind = 7 by omega)]; rfl) | (have hq := of_decide_eq_true hc9; rw [decide_eq_false (show ¬ e.kind = 7 by omega)]; rfl) | simp_all
         ·try (cases hc12; done)
          all_goals
           refine awp_skip ?_; try simp only [RR]
           refine hKB2 _ _ ⟨(by repeat (first | exact agB2 | refine agree.upd rfl ?_)), (by first | exact eB2_b0 | (simp only [nb4_b0, nb0_b4, nb8_b0, nb0_b8, nb8_b4, nb4_b8, upd_app, seval]; first | done | exact eB2_b0)), (by first | exact eB2_b4 | (simp only [nb4_b0, nb0_b4, nb8_b0, nb0_b8, nb8_b4, nb4_b8, upd_app, seval]; first | done | exact eB2_b4)), (by first | exact eB2_b8 | (simp only [nb4_b0, nb0_b4, nb8_b0, nb0_b8, nb8_b4, nb4_b8, upd_app, seval]; first | done | exact eB2_b8)), ?_⟩
           clear hT hU hE hall
           try clear hfe
           refine ⟨?_, ?_, ?_⟩
           ·first | (simp only [upd_app, seval]; rw [hw1 (of_decide_eq_true hc7)]; done) | (simp only [upd_app, seval, f9]; rw [hw2 (of_decide_eq_false hc7)])
           ·first | (have hq := of_decide_eq_true hc7; rw [decide_eq_false (show ¬ e.kind = 6 by omega)]; rfl) | simp_all
           ·first | (have hq := of_decide_eq_true hc7; rw [decide_eq_false (show ¬ e.kind = 7 by omega)]; rfl) | (have hq := of_decide_eq_true hc9; rw [decide_eq_false (show ¬ e.kind = 7 by omega)]; rfl) | simp_all
    rintro F6 M6 ⟨agx, gb0, gb4, gb8, f9, hA, hB⟩
    have f0 := (agx 0 rfl).trans f0
    have f4 := (agx 4 rfl).trans f4
    have f8 := (agx 8 rfl).trans f8
    have f10 := (agx 10 rfl).trans f10
    have f11 := (agx 11 rfl).trans f11
    have f12 := (agx 12 rfl).trans f12
    have f17 := (agx 17 rfl).trans f17
    have hb0 := gb0.trans hb0
    have hb4 := gb4.trans hb4
    have hb8 := gb8.trans hb8
    have ag0 : agree [0, 4, 10, 11] F2 F6 := agree.sub agx rfl ag0
    have e0_b0 := gb0.trans e0_b0
    have e0_b4 := gb4.trans e0_b4
    clear agx
    clear gb0
    clear gb4
    clear gb8
    simp only [RR, seval]
    rw [hA, hB, Bool.and_true, Bool.and_true] at hall
    refine awp_seq_k fun K hK => ?_
    refine awp_region rfl ?_
    simp only [f0, f8, f9, hb8, RR, seval]
    all_goals try (refine awpC_q1 (b := b0) hE (by first | exact hb0 | (simp only [f0, f4, f8, f10, f11, f12, f17, f9, hb0, hb4, hb8, nb4_b0, nb0_b4, nb8_b0, nb0_b8, nb8_b4, nb4_b8, List.length_map, zip_pairs, Option.getD_some, Option.getD_none, Option.isSome_none, Option.isSome_some, hg, hlen, z8,  upd_app, seval]; done) | (simp only [f0, f4, f8, f10, f11, f12, f17, f9, hb0, hb4, hb8, nb4_b0, nb0_b4, nb8_b0, nb0_b8, nb8_b4, nb4_b8, List.length_map, zip_pairs, Option.getD_some, Option.getD_none, Option.isSome_none, Option.isSome_some, hg, hlen, z8,  upd_app, seval]; rfl)) (fun _ => trivial) ?_; simp only [RR, seval])
    all_goals try ((first | refine awpG_splitN (fun h => ?_) (fun h => ?_) | refine awpG_split (fun h => ?_) (fun h => ?_)) <;> simp only [h, f0, f4, f8, hb4, hb8, RR, seval])
    all_goals try (refine awpC_q1 (b := b0) hT (by first | exact hb0 | (simp only [f0, f4, f8, f10, f11, f12, f17, f9, hb0, hb4, hb8, nb4_b0, nb0_b4, nb8_b0, nb0_b8, nb8_b4, nb4_b8, List.length_map, zip_pairs, Option.getD_some, Option.getD_none, Option.isSome_none, Option.isSome_some, hg, hlen, z8,  upd_app, seval]; done) | (simp only [f0, f4, f8, f10, f11, f12, f17, f9, hb0, hb4, hb8, nb4_b0, nb0_b4, nb8_b0, nb0_b8, nb8_b4, nb4_b8, List.length_map, zip_pairs, Option.getD_some, Option.getD_none, Option.isSome_none, Option.isSome_some, hg, hlen, z8,  upd_app, seval]; rfl)) (fun _ => trivial) ?_; simp only [RR, seval])
    all_goals try ((first | refine awpG_splitN (fun h => ?_) (fun h => ?_) | refine awpG_split (fun h => ?_) (fun h => ?_)) <;> simp only [h, f0, f4, f8, hb4, hb8, RR, seval])
    all_goals try (refine awpC_q1 (b := b0) hU (by first | exact hb0 | (simp only [f0, f4, f8, f10, f11, f12, f17, f9, hb0, hb4, hb8, nb4_b0, nb0_b4, nb8_b0, nb0_b8, nb8_b4, nb4_b8, List.length_map, zip_pairs, Option.getD_some, Option.getD_none, Option.isSome_none, Option.isSome_some, hg, hlen, z8,  upd_app, seval]; done) | (simp only [f0, f4, f8, f10, f11, f12, f17, f9, hb0, hb4, hb8, nb4_b0, nb0_b4, nb8_b0, nb0_b8, nb8_b4, nb4_b8, List.length_map, zip_pairs, Option.getD_some, Option.getD_none, Option.isSome_none, Option.isSome_some, hg, hlen, z8,  upd_app, seval]; rfl)) (fun _ => trivial) ?_; simp only [RR, seval])
    all_goals
     refine hK _ _ ?_; clear hK K
     refine awp_if _ rfl (fun hc15 => ?_) (fun hc15 => ?_)
     ·try (cases hc15; done)
      all_goals
       refine awp_seq_k fun K hK => ?_
       refine awp_region rfl ?_
       simp only [RR, seval]
       refine hK _ _ ?_; clear hK K
       refine awp_ret ?_; simp only [bodyQ, aresult, ares, RR, seval]
       refine Gives.q ?_ (hsub_H1 (b := b0) (by first | exact hb0 | (simp only [f0, f4, f8, f10, f11, f12, f17, f9, hb0, hb4, hb8, nb4_b0, nb0_b4, nb8_b0, nb0_b8, nb8_b4, nb4_b8, List.length_map, zip_pairs, Option.getD_some, Option.getD_none, Option.isSome_none, Option.isSome_some, hg, hlen, z8,  upd_app, seval]; done) | (simp only [f0, f4, f8, f10, f11, f12, f17, f9, hb0, hb4, hb8, nb4_b0, nb0_b4, nb8_b0, nb0_b8, nb8_b4, nb4_b8, List.length_map, zip_pairs, Option.getD_some, Option.getD_none, Option.isSome_none, Option.isSome_some, hg, hlen, z8,  upd_app, seval]; rfl)))
       rw [hall]
       clear hT hU hE hfe hw1 hw2
       simp_all
     ·try (cases hc15; done)
      all_goals
       refine awp_skip ?_; try simp only [RR]
       refine awp_region rfl ?_
       simp only [f12, RR, seval]
       try rw [IntWalk.i64_in _ (by omega)]
       refine hK0 _ _ hlt0 ⟨by first | rfl | (simp only [upd_app, seval]; rfl), (by first | exact e0_b0 | (simp only [nb4_b0, nb0_b4, nb8_b0, nb0_b8, nb8_b4, nb4_b8, upd_app, seval]; first | done | exact e0_b0)), (by first | exact e0_b4 | (simp only [nb4_b0, nb0_b4, nb8_b0, nb0_b8, nb8_b4, nb4_b8, upd_app, seval]; first | done | exact e0_b4)), by rw [hall]; clear hT hU hE hfe hw1 hw2; simp_all⟩ (by repeat (first | exact ag0 | refine agree.upd rfl ?_))
   ·have hkn0 : k = l.length := by have := of_decide_eq_false hc; omega
    clear hc
    refine awp_exit ?_; simp only [RR, seval]
    refine awp_seq_k fun K hK => ?_
    refine awp_region rfl ?_
    simp only [RR, seval]
    refine hK _ _ ?_; clear hK K
    refine awp_ret ?_; simp only [bodyQ, aresult, ares, RR, seval]
    refine Gives.q ?_ (hsub_H1 (b := b0) (by first | exact hb0 | (simp only [f0, f4, f10, f11, f12, hb0, hb4, nb4_b0, nb0_b4, List.length_map, zip_pairs, Option.getD_some, Option.getD_none, Option.isSome_none, Option.isSome_some,  upd_app, seval]; done) | (simp only [f0, f4, f10, f11, f12, hb0, hb4, nb4_b0, nb0_b4, List.length_map, zip_pairs, Option.getD_some, Option.getD_none, Option.isSome_none, Option.isSome_some,  upd_app, seval]; rfl)))
    rw [hall, hkn0, List.drop_length, fitT_nil]
end Go.Proofs.YtnfbbjhdflhmjaaDoor
namespace Go.Proofs.YtnfbbjhdflhmjaaDoor
open Go.Al
theorem pCheckT_con (p : Pg) (hp : p.ok) : PCon env 51 [p.av] (.int .i64 (checkT p)) := by
 have hX : checkT p = if (p.funs.all fun f => knT (knF p) f.body) = true then (if (p.funs.all fun f => fitT (wdF p) f.word f.body) = true then 0 else 5) else 4 := rfl
 have hof := hp.funs
 have hff := hp.ffit
 have hRu := rulesOf_con p hp.ffit
 have hKn := fun b (x : List Sm) (h : okS x) => allKnown_con p b _ x (Nat.le_refl _) h
 have hFi := fun b (f : Fu) (x : List Sm) (h : okS x) => allRight_con p b f _ x (Nat.le_refl _) h
 generalize checkT p = res at *
 generalize wdF p = W at *
 generalize knF p = Kf at *
 clear hp
 obtain ⟨vs, aa, fs⟩ := p
 simp only [Pg.av, Pg.row, fitL] at hRu hff hof hX ⊢
 refine con_of 37 [.tmp 2] Tryd.func51 rfl rfl rfl rfl ?_
 refine awp_seq_k fun K hK => ?_
 refine awp_region rfl ?_
 simp only [RR, seval]
 refine awpN_intro fun b1 hn1 => ?_
 simp only [RR, seval]
 refine hK _ _ ?_; clear hK K
 refine awp_name fun F1 M1 hfr hH => ?_
 have g1 := hfr 1
 have g2 := hfr 2
 have gb1 := hH b1
 try simp only [RR, seval] at g1 g2 gb1
 have f1 := g1; clear g1
 have f2 := g2; clear g2
 have hb1 := gb1; clear gb1
 clear hfr hH
 refine awp_seq_k fun K hK => ?_
 refine awp_region rfl ?_
 simp only [f1, hb1, RR, seval]
 refine awpC_makes hRu (SubL.refl _) fun v H' M9 ⟨b9, hv, hH'⟩ hk hn => ?_
 subst hv
 have hb9 : M9 b9 = some (.rows 11 [rulesR ⟨vs, aa, fs⟩ b9]) := (hn b9 _ (by rw [hH']; exact H1_same _ _)).1
 have hn9 := (hn b9 _ (by rw [hH']; exact H1_same _ _)).2
 have n91 : b9 ≠ b1 := fun e => by rw [e, hb1] at hn9; cases hn9
 have n19 : b1 ≠ b9 := fun e => n91 e.symm
 have hb1 := hk _ _ (fun h => h) hb1
 have hKn := hKn b9
 have hFi := hFi b9
 unfold hpR at hKn hFi
 generalize rulesR ⟨vs, aa, fs⟩ b9 = RRow at *
 simp only [RR, seval]
 refine hK _ _ ?_; clear hK K
 refine awp_seq ?_
 refine awp_seq_k fun K hK => ?_
 refine awp_region rfl ?_
 simp only [f1, hb1, List.length_map, RR, seval]
 refine hK _ _ ?_; clear hK K
 refine awp_name fun F2 M2 hfr hH => ?_
 have g1 := hfr 1
 have g2 := hfr 2
 have g3 := hfr 3
 have g11 := hfr 11
 have g12 := hfr 12
 have g13 := hfr 13
 have gb1 := hH b1
 have gb9 := hH b9
 try simp only [f1, f2, hb1, hb9, RR, seval] at g1 g2 g3 g11 g12 g13 gb1 gb9
 have f1 := g1; clear g1
 have f2 := g2; clear g2
 have f3 := g3; clear g3
 have f11 := g11; clear g11
 have f12 := g12; clear g12
 have f13 := g13; clear g13
 have hb1 := gb1; clear gb1
 have hb9 := gb9; clear gb9
 clear hfr hH
 refine awp_block ?_
 refine awp_each [1, 3, 11, 12] (fs.length) (fun k fr M => fr 13 = .int .i64 (k : Nat) ∧ M b1 = M2 b1 ∧ M b9 = M2 b9 ∧ (fs.all fun f => knT Kf f.body) = ((fs.drop k).all fun f => knT Kf f.body)) ⟨f13, rfl, rfl, by rw [List.drop_zero]⟩ ?_
 rintro k F3 M3 hk0 ⟨fx, gb1, gb9, hall⟩ agx K0 hK0
 have f1 := (agx 1 rfl).trans f1
 have f3 := (agx 3 rfl).trans f3
 have f11 := (agx 11 rfl).trans f11
 have f12 := (agx 12 rfl).trans f12
 have f13 := fx; clear fx
 have hb1 := gb1.trans hb1
 have hb9 := gb9.trans hb9
 have ag0 := agree.refl [1, 3, 11, 12] F3
 have e0_b1 := gb1; clear gb1
 have e0_b9 := gb9; clear gb9
 clear agx
 refine awp_seq_k fun K hK => ?_
 refine awp_region rfl ?_
 simp only [f12, f13, RR, seval]
 refine hK _ _ ?_; clear hK K
 refine awp_seq ?_
 refine awp_if _ rfl (fun hc => ?_) (fun hc => ?_)
 ·have hlt0 : k < fs.length := by have := of_decide_eq_true hc; omega
  clear hc
  have hg := getF (List.getElem?_eq_getElem hlt0)
  have hok := (hof _ (List.getElem_mem hlt0)).body
  rw [List.drop_eq_getElem_cons hlt0, List.all_cons] at hall
  generalize fs[k] = f at hg hall hok
  have hk := hKn f.body hok
  generalize knT Kf f.body = KK at hk hall
  refine awp_skip ?_; try simp only [RR]
  refine awp_seq ?_
  refine awp_block ?_
  refine awp_seq_k fun K hK => ?_
  refine awp_region rfl ?_
  simp only [f11, f13, hg, RR, seval]
  refine awpN_intro fun b5 hn5 => ?_
  have nb5_b1 : b5 ≠ b1 := fun e => by rw [e] at hn5; simp only [hb1, seval, reduceCtorEq] at hn5
  have nb1_b5 : b1 ≠ b5 := fun e => nb5_b1 e.symm
  have nb5_b9 : b5 ≠ b9 := fun e => by rw [e] at hn5; simp only [hb9, seval, reduceCtorEq] at hn5
  have nb9_b5 : b9 ≠ b5 := fun e => nb5_b9 e.symm
  simp only [RR, seval]
  refine hK _ _ ?_; clear hK K
  refine awp_seq_k fun K hK => ?_
  refine awp_region rfl ?_
  simp only [f3, RR, seval]
  refine awpC_q1 (b := b9) hk (by first | exact hb9 | (simp only [hb9, nb9_b5, upd_app, seval]; done) | (simp only [f1, f3, f11, f12, f13, hb1, hb9, n91, n19, nb5_b1, nb1_b5, nb5_b9, nb9_b5, List.length_map, hg,  upd_app, seval]; rfl)) (fun _ => trivial) ?_
  simp only [RR, seval]
  refine hK _ _ ?_; clear hK K
  refine awp_if _ rfl (fun hc5 => ?_) (fun hc5 => ?_)
  ·refine awp_seq_k fun K hK => ?_
   refine awp_region rfl ?_
   simp only [RR, seval]
   refine hK _ _ ?_; clear hK K
   refine awp_ret ?_; simp only [bodyQ, aresult, ares, RR, seval]
   refine Gives.pure ?_
   rw [hX, if_neg (by rw [hall, show KK = false by simpa using hc5]; simp)]
  ·refine awp_skip ?_; try simp only [RR]
   refine awp_region rfl ?_
   simp only [f13, RR, seval]
   try rw [IntWalk.i64_in _ (by omega)]
   refine hK0 _ _ hlt0 ⟨by first | rfl | (simp only [upd_app, seval]; rfl), (by first | exact e0_b1 | (simp only [nb1_b5, upd_app, seval]; first | done | exact e0_b1)), (by first | exact e0_b9 | (simp only [nb9_b5, upd_app, seval]; first | done | exact e0_b9)), by rw [hall, show KK = true by simpa using hc5, Bool.true_and]⟩ (by repeat (first | exact ag0 | refine agree.upd rfl ?_))
 ·have hkn0 : k = fs.length := by have := of_decide_eq_false hc; omega
  clear hc
  rw [hkn0, List.drop_length, List.all_nil] at hall
  rw [if_pos hall] at hX
  refine awp_exit ?_; simp only [RR, seval]
  refine awp_seq ?_
  refine awp_seq_k fun K hK => ?_
  refine awp_region rfl ?_
  simp only [f1, hb1, List.length_map, RR, seval]
  refine hK _ _ ?_; clear hK K
  refine awp_name fun F4 M4 hfr hH => ?_
  have g2 := hfr 2
  have g3 := hfr 3
  have g24 := hfr 24
  have g25 := hfr 25
  have g26 := hfr 26
  have gb1 := hH b1
  have gb9 := hH b9
  try simp only [f3, hb1, hb9, RR, seval] at g2 g3 g24 g25 g26 gb1 gb9
  have f2 := g2; clear g2
  have f3 := g3; clear g3
  have f24 := g24; clear g24
  have f25 := g25; clear g25
  have f26 := g26; clear g26
  have hb1 := gb1; clear gb1
  have hb9 := gb9; clear gb9
  clear hfr hH
  refine awp_block ?_
  refine awp_each [3, 24, 25] (fs.length) (fun j fr M => fr 26 = .int .i64 (j : Nat) ∧ M b1 = M4 b1 ∧ M b9 = M4 b9 ∧ (fs.all fun f => fitT W f.word f.body) = ((fs.drop j).all fun f => fitT W f.word f.body)) ⟨f26, rfl, rfl, by rw [List.drop_zero]⟩ ?_
  rintro j F5 M5 hk2 ⟨fx, gb1, gb9, hall2⟩ agx K2 hK2
  have f3 := (agx 3 rfl).trans f3
  have f24 := (agx 24 rfl).trans f24
  have f25 := (agx 25 rfl).trans f25
  have f26 := fx; clear fx
  have hb1 := gb1.trans hb1
  have hb9 := gb9.trans hb9
  have ag2 := agree.refl [3, 24, 25] F5
  have e2_b1 := gb1; clear gb1
  have e2_b9 := gb9; clear gb9
  clear agx
  refine awp_seq_k fun K hK => ?_
  refine awp_region rfl ?_
  simp only [f25, f26, RR, seval]
  refine hK _ _ ?_; clear hK K
  refine awp_seq ?_
  refine awp_if _ rfl (fun hc => ?_) (fun hc => ?_)
  ·have hlt2 : j < fs.length := by have := of_decide_eq_true hc; omega
   clear hc
   have hg := getF (List.getElem?_eq_getElem hlt2)
   have hok := (hof _ (List.getElem_mem hlt2)).body
   rw [List.drop_eq_getElem_cons hlt2, List.all_cons] at hall2
   generalize fs[j] = f at hg hall2 hok
   have hk := hFi f f.body hok
   simp only [Fu.row] at hk
   generalize fitT W f.word f.body = KK at hk hall2
   refine awp_skip ?_; try simp only [RR]
   refine awp_seq ?_
   refine awp_block ?_
   refine awp_seq_k fun K hK => ?_
   refine awp_region rfl ?_
   simp only [f24, f26, hg, RR, seval]
   refine awpN_intro fun b7 hn7 => ?_
   have nb7_b1 : b7 ≠ b1 := fun e => by rw [e] at hn7; simp only [hb1, seval, reduceCtorEq] at hn7
   have nb1_b7 : b1 ≠ b7 := fun e => nb7_b1 e.symm
   have nb7_b9 : b7 ≠ b9 := fun e => by rw [e] at hn7; simp only [hb9, seval, reduceCtorEq] at hn7
   have nb9_b7 : b9 ≠ b7 := fun e => nb7_b9 e.symm
   simp only [RR, seval]
   refine hK _ _ ?_; clear hK K
   refine awp_seq_k fun K hK => ?_
   refine awp_region rfl ?_
   simp only [f3, RR, seval]
   refine awpC_q1 (b := b9) hk (by first | exact hb9 | (simp only [hb9, nb9_b7, upd_app, seval]; done) | (simp only [f3, f24, f25, f26, hb1, hb9, n91, n19, nb7_b1, nb1_b7, nb7_b9, nb9_b7, List.length_map, hg,  upd_app, seval]; rfl)) (fun _ => trivial) ?_
   simp only [RR, seval]
   refine hK _ _ ?_; clear hK K
   refine awp_if _ rfl (fun hc11 => ?_) (fun hc11 => ?_)
   ·refine awp_seq_k fun K hK => ?_
    refine awp_region rfl ?_
    simp only [RR, seval]
    refine hK _ _ ?_; clear hK K
    refine awp_ret ?_; simp only [bodyQ, aresult, ares, RR, seval]
    refine Gives.pure ?_
    rw [hX, if_neg (by rw [hall2, show KK = false by simpa using hc11]; simp)]
   ·refine awp_skip ?_; try simp only [RR]
    refine awp_region rfl ?_
    simp only [f26, RR, seval]
    try rw [IntWalk.i64_in _ (by omega)]
    refine hK2 _ _ hlt2 ⟨by first | rfl | (simp only [upd_app, seval]; rfl), (by first | exact e2_b1 | (simp only [nb1_b7, upd_app, seval]; first | done | exact e2_b1)), (by first | exact e2_b9 | (simp only [nb9_b7, upd_app, seval]; first | done | exact e2_b9)), by rw [hall2, show KK = true by simpa using hc11, Bool.true_and]⟩ (by repeat (first | exact ag2 | refine agree.upd rfl ?_))
  ·have hkn2 : j = fs.length := by have := of_decide_eq_false hc; omega
   clear hc
   refine awp_exit ?_; simp only [RR, seval]
   refine awp_seq_k fun K hK => ?_
   refine awp_region rfl ?_
   simp only [RR, seval]
   refine hK _ _ ?_; clear hK K
   refine awp_ret ?_; simp only [bodyQ, aresult, ares, RR, seval]
   refine Gives.pure ?_
   rw [hX, if_pos (by rw [hall2, hkn2, List.drop_length]; rfl)]
theorem pSound_con (p : Pg) (hp : p.few) : PCon env 34 [p.av] (.int .i64 (soundT p)) := by
 have hR := pRight_con p hp.ok
 have h1 : rightP p = true → 1 ≤ p.funs.length := fun h => by
  simp only [rightP, Bool.and_eq_true, decide_eq_true_eq] at h
  exact h.1.1.1.2
 have hC := fun h => Check_con p hp (h1 h)
 have hT := pCheckT_con p hp.ok
 have hX : soundT p = if rightP p = true then (if checkI p = 0 then checkT p else checkI p) else 7 := rfl
 generalize soundT p = res at *
 generalize checkT p = ct at *
 generalize checkI p = ci at *
 generalize rightP p = rp at *
 simp only [Pg.av, Pg.row] at *
 cases rp with
 | false =>
   refine con_of 14 [.tmp 2] Tryd.func34 rfl rfl rfl rfl ?_
   refine awp_seq_k fun K hK => ?_
   refine awp_region rfl ?_
   simp only [RR, seval]
   refine awpN_intro fun b1 hn1 => ?_
   simp only [RR, seval]
   refine hK _ _ ?_; clear hK K
   refine awp_seq ?_
   refine awp_seq_k fun K hK => ?_
   refine awp_region rfl ?_
   simp only [RR, seval]
   refine awpC_pure' (hR) ?_
   simp only [RR, seval]
   refine hK _ _ ?_; clear hK K
   refine awp_if true rfl (fun _ => ?_) (fun hc => by cases hc)
   refine awp_seq_k fun K hK => ?_
   refine awp_region rfl ?_
   simp only [RR, seval]
   refine hK _ _ ?_; clear hK K
   refine awp_ret ?_; simp only [bodyQ, aresult, ares, RR, seval]
   refine Gives.pure ?_
   rw [hX]
   rfl
 | true =>
   have hC := hC rfl
   rw [if_pos rfl] at hX
   refine con_of 14 [.tmp 2] Tryd.func34 rfl rfl rfl rfl ?_
   refine awp_seq_k fun K hK => ?_
   refine awp_region rfl ?_
   simp only [RR, seval]
   refine awpN_intro fun b1 hn1 => ?_
   simp only [RR, seval]
   refine hK _ _ ?_; clear hK K
   refine awp_seq ?_
   refine awp_seq_k fun K hK => ?_
   refine awp_region rfl ?_
   simp only [RR, seval]
   refine awpC_pure' (hR) ?_
   simp only [RR, seval]
   refine hK _ _ ?_; clear hK K
   refine awp_if false rfl (fun hc => by cases hc) (fun _ => ?_)
   refine awp_skip ?_; try simp only [RR]
   refine awp_seq ?_
   refine awp_seq_k fun K hK => ?_
   refine awp_region rfl ?_
   simp only [RR, seval]
   refine awpC_pure' (hC) ?_
   simp only [RR, seval]
   refine hK _ _ ?_; clear hK K
   refine awp_seq_k fun K hK => ?_
   refine awp_region rfl ?_
   simp only [RR, seval]
   refine hK _ _ ?_; clear hK K
   refine awp_if _ rfl (fun hc4 => ?_) (fun hc4 => ?_)
   ·refine awp_seq_k fun K hK => ?_
    refine awp_region rfl ?_
    simp only [RR, seval]
    refine hK _ _ ?_; clear hK K
    refine awp_ret ?_; simp only [bodyQ, aresult, ares, RR, seval]
    refine Gives.pure ?_
    rw [hX, if_neg (by simpa using hc4)]
   ·refine awp_skip ?_; try simp only [RR]
    refine awp_seq_k fun K hK => ?_
    refine awp_region rfl ?_
    simp only [RR, seval]
    refine awpC_pure' (hT) ?_
    simp only [RR, seval]
    refine hK _ _ ?_; clear hK K
    refine awp_ret ?_; simp only [bodyQ, aresult, ares, RR, seval]
    refine Gives.pure ?_
    rw [hX, if_pos (by simpa using hc4)]
end Go.Proofs.YtnfbbjhdflhmjaaDoor
namespace Go.Proofs.YtnfbbjhdflhmjaaDoor
open Go.Al
theorem leftE_sz (n : Nat) : ∀ (l : List Ex) (left deep : Int), szE l ≤ n → 0 ≤ leftE l left deep → leftE l left deep + szE l = left := by
 induction n using Nat.strongRecOn with
 | _ n ih =>
   intro l left deep hn h
   cases l with
   | nil => rw [leftE, szE]; simp
   | cons e l =>
     have hs := e.sz_eq
     rw [szE] at hn ⊢
     rw [leftE_cons] at h ⊢
     split at h
     ·omega
     ·rename_i h1
      rw [if_neg h1]
      split at h
      ·omega
      ·rename_i h2
       rw [if_neg h2]
       have i1 := ih (szE l) (by omega) l _ deep (Nat.le_refl _) h
       have i2 := ih (szE e.kids) (by omega) e.kids (left - 1) (deep - 1) (Nat.le_refl _) (by omega)
       omega
theorem leftS_sz (n : Nat) : ∀ (l : List Sm) (left deep : Int), szS l ≤ n → 0 ≤ leftS l left deep → leftS l left deep + szS l = left := by
 induction n using Nat.strongRecOn with
 | _ n ih =>
   intro l left deep hn h
   cases l with
   | nil => rw [leftS, szS]; simp
   | cons e l =>
     have hs := e.sz_eq
     rw [szS] at hn ⊢
     rw [leftS_cons] at h ⊢
     split at h
     ·omega
     ·rename_i h1
      rw [if_neg h1]
      split at h
      ·omega
      ·rename_i h2
       rw [if_neg h2]
       have i1 := ih (szS l) (by omega) l _ deep (Nat.le_refl _) h
       have i2 := ih (szS e.els) (by omega) e.els (leftS e.thn (leftE e.es (left - 1) (deep - 1)) (deep - 1)) (deep - 1) (Nat.le_refl _) (by omega)
       have i3 := ih (szS e.thn) (by omega) e.thn (leftE e.es (left - 1) (deep - 1)) (deep - 1) (Nat.le_refl _) (by omega)
       have i4 := leftE_sz _ e.es (left - 1) (deep - 1) (Nat.le_refl _) (by omega)
       omega
theorem leftF_sz : ∀ (l : List Fu) (left : Int), 0 ≤ leftF l left → leftF l left ≤ left ∧ ∀ f ∈ l, (szS f.body : Int) ≤ left
 | [], left, h => ⟨by rw [leftF]; exact Int.le_refl _, fun f hf => by cases hf⟩
 | f :: l, left, h => by
   rw [leftF] at h ⊢
   obtain ⟨h1, h2⟩ := leftF_sz l _ h
   have h3 := leftS_sz _ f.body (left - f.params.length - f.locs.length) 60 (Nat.le_refl _) (by omega)
   refine ⟨by omega, fun g hg => ?_⟩
   rcases List.mem_cons.mp hg with rfl | hg
   ·omega
   ·have := h2 g hg; omega
theorem fewB_few (p : Pg) (hp : p.ok) (m : Int) (hm : m ≤ 400) (h : fewB p m = true) : p.few := by
 simp only [fewB, Bool.and_eq_true, decide_eq_true_eq, List.all_eq_true] at h
 obtain ⟨⟨⟨⟨⟨h1, h2⟩, h3⟩, h4⟩, h5⟩, h6⟩ := h
 have hs := (leftF_sz _ _ h6).2
 refine ⟨hp, ?_, by omega, by omega, fun f hf => ?_⟩
 ·have := (shortB_len h1).1; omega
 ·have hff := h5 f hf
  simp only [fewF, Bool.and_eq_true] at hff
  have q1 := (shortB_len hff.1.1).1
  have q2 := (shortB_len hff.1.2).1
  have := hs f hf
  refine ⟨by omega, by omega, by omega⟩
def aE : Ex := .mk 2 0 0 [97] []
def oneE : Ex := .mk 1 0 1 [] []
def pA : Pg := ⟨[[97]], [], [⟨[109, 97, 105, 110], [], [], false, [.mk 3 [] [aE] [] []]⟩]⟩
def qA : Pg := ⟨[[97]], [], [⟨[109, 97, 105, 110], [], [], false, [.mk 4 [] [aE] [] []]⟩]⟩
def pZ : Pg := ⟨[], [], []⟩
theorem aw1 : exprT pA (.mk 6 4 0 [] [oneE, aE]) = (1, 0) := by decide +kernel
theorem aw2 : exprT pA (.mk 6 14 0 [] [oneE, aE]) = (2, 0) := by decide +kernel
theorem aw3 : exprT pA (.mk 7 0 0 [] [oneE]) = (0, 5) := by decide +kernel
theorem aw4 : exprT pA (.mk 4 0 0 [102] []) = (0, 4) := by decide +kernel
theorem aw5 : soundT pA = 0 := by
 simp only [soundT, rightP, rightF, pA, aE, List.all_cons, List.all_nil, rightS_cons, rightS_nil, rightM, rightE_cons, rightE_nil, rightX, checkI, namesB, numsB, namesFrom, numsFrom, usesS_cons, usesE_cons, usesS, usesE, Ex.kids, Sm.es, Sm.thn, Sm.els]
 decide +kernel
theorem aw6 : soundT qA = 5 := by
 simp only [soundT, rightP, rightF, qA, aE, List.all_cons, List.all_nil, rightS_cons, rightS_nil, rightM, rightE_cons, rightE_nil, rightX, checkI, namesB, numsB, namesFrom, numsFrom, usesS_cons, usesE_cons, usesS, usesE, Ex.kids, Sm.es, Sm.thn, Sm.els]
 decide +kernel
theorem aw7 : soundT pZ = 7 := by decide +kernel
theorem okE_nil : okE [] := ⟨(by simp [fitL]), fun e h => by cases h⟩
theorem ok_aE : aE.ok := .mk _ _ _ _ _ (by simp [i64R]) (by simp [i64R]) (by simp [u32R]) (by simp [fitL]) okE_nil.fit okE_nil.all
theorem ok_oneE : oneE.ok := .mk _ _ _ _ _ (by simp [i64R]) (by simp [i64R]) (by simp [u32R]) (by simp [fitL]) okE_nil.fit okE_nil.all
theorem okE_1 {e : Ex} (h : e.ok) : okE [e] := ⟨(by simp [fitL]), fun x hx => by rw [List.mem_singleton] at hx; rw [hx]; exact h⟩
theorem okE_2 {e f : Ex} (h : e.ok) (h' : f.ok) : okE [e, f] := ⟨(by simp [fitL]), fun x hx => by
 rcases List.mem_cons.1 hx with rfl | hx
 ·exact h
 ·rw [List.mem_singleton] at hx; rw [hx]; exact h'⟩
theorem ex_ok' (k o n : Int) (hk : i64R k) (ho : i64R o) (hn : u32R n) {s : Str} (hs : fitL s) {l : List Ex} (hl : okE l) : (Ex.mk k o n s l).ok := .mk _ _ _ _ _ hk ho hn hs hl.fit hl.all
theorem few_A (k : Int) (hk : i64R k) : (⟨[[97]], [], [⟨[109, 97, 105, 110], [], [], false, [.mk k [] [aE] [] []]⟩]⟩ : Pg).few := by
 refine ⟨⟨⟨by simp [fitL], fun s hs => by simp only [List.mem_singleton] at hs; subst hs; simp [fitL]⟩, by simp [fitL], (fun a h => by cases h), by simp [fitL], fun f hf => ?_⟩, by simp, by simp, by simp, fun f hf => ?_⟩
 ·simp only [List.mem_singleton] at hf
  subst hf
  refine ⟨by simp [fitL], ⟨by simp [fitL], (fun s h => by cases h)⟩, ⟨by simp [fitL], fun s h => by cases h⟩, ⟨by simp [fitL], fun s hs => ?_⟩⟩
  simp only [List.mem_singleton] at hs
  subst hs
  exact .mk _ _ _ _ _ hk (by simp [fitL]) (okE_1 ok_aE) (by simp [fitL]) (fun e h => by cases h) (by simp [fitL]) (fun e h => by cases h)
 ·simp only [List.mem_singleton] at hf
  subst hf
  simp [szS, Sm.sz, szE, Ex.sz, aE]
theorem few_Z : pZ.few := ⟨⟨⟨by simp [pZ, fitL], fun s h => by cases h⟩, by simp [pZ, fitL], (fun a h => by cases h), by simp [pZ, fitL], (fun f h => by cases h)⟩, by simp [pZ], by simp [pZ], by simp [pZ], fun f h => by cases h⟩
end Go.Proofs.YtnfbbjhdflhmjaaDoor
