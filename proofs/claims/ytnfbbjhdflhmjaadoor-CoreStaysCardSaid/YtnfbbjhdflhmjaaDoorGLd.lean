/- Chapter 19: how great a core is; how many gets there are; are results alike? -/
import Derived.Test.YtnfbbjhdflhmjaaDoorGLc
set_option linter.unusedSimpArgs false
set_option linter.unusedVariables false
set_option maxRecDepth 10000
namespace Go.Al
theorem sum_take {α : Type} (z : α → Nat) : ∀ {l : List α} {k : Nat} {e : α}, l[k]? = some e → ((l.take (k + 1)).map z).sum = ((l.take k).map z).sum + z e
 | [], k, e, h => by simp at h
 | x :: l, 0, e, h => by simp only [List.getElem?_cons_zero, Option.some.injEq] at h; subst h; simp
 | x :: l, k + 1, e, h => by
   simp only [List.getElem?_cons_succ] at h
   have := sum_take z h
   simp only [List.take_succ_cons, List.map_cons, List.sum_cons, this]; omega
theorem sum_le {α : Type} (z : α → Nat) : ∀ (l : List α) (k : Nat), ((l.take k).map z).sum ≤ (l.map z).sum
 | [], k => by simp
 | x :: l, 0 => by simp
 | x :: l, k + 1 => by have := sum_le z l k; simp only [List.take_succ_cons, List.map_cons, List.sum_cons]; omega
theorem mem_sum {α : Type} (z : α → Nat) : ∀ {l : List α} {e : α}, e ∈ l → z e ≤ (l.map z).sum
 | x :: l, e, h => by
   simp only [List.map_cons, List.sum_cons]
   rcases List.mem_cons.1 h with rfl | h
   ·omega
   ·have := mem_sum z h; omega
theorem getsEs_map : ∀ l : List CE, getsEs l = (l.map getsE).sum
 | [] => rfl
 | e :: l => by simp only [getsEs, getsEs_map l, List.map_cons, List.sum_cons]
theorem getsSs_map : ∀ l : List CS, getsSs l = (l.map getsS).sum
 | [] => rfl
 | e :: l => by simp only [getsSs, getsSs_map l, List.map_cons, List.sum_cons]
theorem getsE_eq (e : CE) : getsE e = (if e.kind = 5 then 1 else 0) + getsEs e.kids := by cases e; rw [getsE]; rfl
theorem getsS_eq (e : CS) : getsS e = getsEs e.es + getsSs e.thn + getsSs e.els := by cases e; simp only [getsS, CS.es, CS.thn, CS.els]
theorem getsEs_le (n : Nat) : ∀ l : List CE, szCE l ≤ n → getsEs l ≤ szCE l := by
 induction n with
 | zero => intro l h; cases l with | nil => simp [getsEs] | cons e l => have := e.sz_eq; simp only [szCE] at h; omega
 | succ n ih =>
   intro l
   induction l with
   | nil => intro _; simp [getsEs]
   | cons e l ihl =>
     intro h
     have hs := e.sz_eq
     simp only [szCE] at h ⊢
     have h1 := ih e.kids (by omega)
     have h2 := ihl (by omega)
     simp only [getsEs, getsE_eq]
     split <;> omega
theorem getsSs_le (n : Nat) : ∀ l : List CS, szCS l ≤ n → getsSs l ≤ szCS l := by
 induction n with
 | zero => intro l h; cases l with | nil => simp [getsSs] | cons e l => have := e.sz_eq; simp only [szCS] at h; omega
 | succ n ih =>
   intro l
   induction l with
   | nil => intro _; simp [getsSs]
   | cons e l ihl =>
     intro h
     have hs := e.sz_eq
     simp only [szCS] at h ⊢
     have h1 := getsEs_le (szCE e.es) e.es (Nat.le_refl _)
     have h2 := ih e.thn (by omega)
     have h3 := ih e.els (by omega)
     have h4 := ihl (by omega)
     simp only [getsSs, getsS_eq]
     omega
theorem touchI (row : List AV) (j : Nat) : (∀ b : Nat, atouch (.ipt row j) = some b → False) = True := propext ⟨fun _ => trivial, fun _ _ h => by cases h⟩
def getsC (c : Co) : Nat := (c.funs.map fun f => getsSs f.body).sum
end Go.Al
namespace Go.Proofs.YtnfbbjhdflhmjaaDoor
open Go.Al
theorem cSize_con (c : Co) (hb : sizC c ≤ 1000000000) (hf : c.funs.length ≤ 1000000) : PCon env 18 [c.av] (.int .i64 (sizC c : Nat)) := by
 have hav : c.av = .agg [.int .i64 c.words, .isl 5 (c.funs.map CF.row)] := rfl
 rw [hav]
 unfold sizC at *
 generalize c.funs = fs at *
 refine con_of 20 [.tmp 2] Tryd.func18 rfl rfl rfl rfl ?_
 refine awp_seq_k fun K hK => ?_
 refine awp_region rfl ?_
 simp only [RR, seval]
 refine awpN_intro fun b1 hn1 => ?_
 simp only [RR, seval]
 refine hK _ _ ?_; clear hK K
 refine awp_seq_k fun K hK => ?_
 refine awp_region rfl ?_
 simp only [RR, seval]
 refine hK _ _ ?_; clear hK K
 refine awp_seq ?_
 refine awp_seq_k fun K hK => ?_
 refine awp_region rfl ?_
 simp only [List.length_map, RR, seval]
 refine hK _ _ ?_; clear hK K
 refine awp_name fun F1 M1 hfr hH => ?_
 have g2 := hfr 2
 have g3 := hfr 3
 have g7 := hfr 7
 have g8 := hfr 8
 have g9 := hfr 9
 have gb1 := hH b1
 try simp only [RR, seval] at g2 g3 g7 g8 g9 gb1
 have f2 := g2; clear g2
 have f3 := g3; clear g3
 have f7 := g7; clear g7
 have f8 := g8; clear g8
 have f9 := g9; clear g9
 have hb1 := gb1; clear gb1
 clear hfr hH
 refine awp_block ?_
 refine awp_each [2, 7, 8] (fs.length) (fun k fr M => fr 9 = .int .i64 (k : Nat) ∧ M b1 = M1 b1 ∧ fr 3 = .int .i64 (((fs.take k).map fun f => szCS f.body).sum : Nat)) ⟨f9, rfl, by simp [f3]⟩ ?_
 rintro k F2 M2 hk0 ⟨fx, gb1, f3⟩ agx K0 hK0
 have f2 := (agx 2 rfl).trans f2
 have f7 := (agx 7 rfl).trans f7
 have f8 := (agx 8 rfl).trans f8
 have f9 := fx; clear fx
 have hb1 := gb1.trans hb1
 have ag0 := agree.refl [2, 7, 8] F2
 have e0_b1 := gb1; clear gb1
 clear agx
 refine awp_seq_k fun K hK => ?_
 refine awp_region rfl ?_
 simp only [f8, f9, RR, seval]
 refine hK _ _ ?_; clear hK K
 refine awp_seq ?_
 refine awp_if _ rfl (fun hc => ?_) (fun hc => ?_)
 ·have hlt0 : k < fs.length := by have := of_decide_eq_true hc; omega
  clear hc
  have hg0 := List.getElem?_eq_getElem hlt0
  have hle := sum_le (fun f : CF => szCS f.body) fs (k + 1)
  have ht := sum_take (fun f : CF => szCS f.body) hg0
  have hkd := stmtsSize_con (szCS (fs[k]).body) (fs[k]).body (Nat.le_refl _) (by have := mem_sum (fun f : CF => szCS f.body) (List.getElem_mem hlt0); omega)
  have hg := getCF hg0
  generalize fs[k] = f at hg0 ht hkd hg
  have z1 : IntKind.wrap .i64 ((((fs.take k).map fun f => szCS f.body).sum : Nat) + (szCS f.body : Nat) : Int) = (((fs.take (k + 1)).map fun f => szCS f.body).sum : Nat) := by rw [IntWalk.i64_in _ (by omega)]; omega
  refine awp_skip ?_; try simp only [RR]
  refine awp_seq ?_
  refine awp_block ?_
  refine awp_seq_k fun K hK => ?_
  refine awp_region rfl ?_
  simp only [f7, f9, hg, RR, seval]
  refine awpN_intro fun b5 hn5 => ?_
  have nb5_b1 : b5 ≠ b1 := fun e => by rw [e] at hn5; simp only [hb1, seval, reduceCtorEq] at hn5
  have nb1_b5 : b1 ≠ b5 := fun e => nb5_b1 e.symm
  simp only [RR, seval]
  refine hK _ _ ?_; clear hK K
  refine awp_region rfl ?_
  simp only [f3, RR, seval]
  refine awpC_pure' (hkd) ?_
  simp only [z1, RR, seval]
  refine awp_region rfl ?_
  simp only [f9, RR, seval]
  try rw [IntWalk.i64_in _ (by omega)]
  refine hK0 _ _ hlt0 ⟨by first | rfl | (simp only [upd_app, seval]; rfl), (by first | exact e0_b1 | (simp only [nb1_b5, upd_app, seval]; first | done | exact e0_b1)), rfl⟩ (by repeat (first | exact ag0 | refine agree.upd rfl ?_))
 ·have hkn0 : k = fs.length := by have := of_decide_eq_false hc; omega
  clear hc
  rw [hkn0, List.take_length] at f3
  refine awp_exit ?_; simp only [RR, seval]
  refine awp_seq_k fun K hK => ?_
  refine awp_region rfl ?_
  simp only [f3, RR, seval]
  refine hK _ _ ?_; clear hK K
  refine awp_ret ?_; simp only [bodyQ, aresult, ares, RR, seval]
  refine Gives.pure ?_
  rfl
theorem inExprs_con (n : Nat) : ∀ l : List CE, szCE l ≤ n → n ≤ 1000000000 → PCon env 39 [.isl 6 (l.map CE.row)] (.int .i64 (getsEs l : Nat)) := by
 induction n using Nat.strongRecOn with
 | _ n ih =>
   intro l hn hb
   have hl := szCE_len l
   have hgl := getsEs_le n l hn
   rw [getsEs_map] at *
   refine con_of 28 [.tmp 2] Tryd.func39 rfl rfl rfl rfl ?_
   refine awp_seq_k fun K hK => ?_
   refine awp_region rfl ?_
   simp only [RR, seval]
   refine hK _ _ ?_; clear hK K
   refine awp_seq_k fun K hK => ?_
   refine awp_region rfl ?_
   simp only [RR, seval]
   refine hK _ _ ?_; clear hK K
   refine awp_seq ?_
   refine awp_seq_k fun K hK => ?_
   refine awp_region rfl ?_
   simp only [RR, seval]
   refine hK _ _ ?_; clear hK K
   refine awp_name fun F1 M1 hfr hH => ?_
   have g0 := hfr 0
   have g2 := hfr 2
   have g3 := hfr 3
   have g4 := hfr 4
   try simp only [RR, seval] at g0 g2 g3 g4
   have f0 := g0; clear g0
   have f2 := g2; clear g2
   have f3 := g3; clear g3
   have f4 := g4; clear g4
   clear hfr hH
   refine awp_block ?_
   refine awp_each [0, 2] (l.length) (fun k fr M => fr 4 = .int .i64 (k : Nat) ∧ fr 3 = .int .i64 (((l.take k).map getsE).sum : Nat)) ⟨f4, by simp [f3]⟩ ?_
   rintro k F2 M2 hk0 ⟨fx, f3⟩ agx K0 hK0
   have f0 := (agx 0 rfl).trans f0
   have f2 := (agx 2 rfl).trans f2
   have f4 := fx; clear fx
   have ag0 := agree.refl [0, 2] F2
   clear agx
   refine awp_seq ?_
   refine awp_seq_k fun K hK => ?_
   refine awp_region rfl ?_
   simp only [f0, f4, List.length_map, RR, seval]
   refine hK _ _ ?_; clear hK K
   refine awp_if _ rfl (fun hc => ?_) (fun hc => ?_)
   ·have hlt0 : k < l.length := by have := of_decide_eq_true hc; omega
    clear hc
    have hg0 := List.getElem?_eq_getElem hlt0
    have hm := szCE_mem (List.getElem_mem hlt0)
    have hle := sum_le getsE l (k + 1)
    have ht := sum_take getsE hg0
    have hs := (l[k]).sz_eq
    have hkd := ih (szCE (l[k]).kids) (by omega) (l[k]).kids (Nat.le_refl _) (by omega)
    have hg := getCE hg0
    generalize l[k] = e at hg0 hm ht hs hkd hg
    rw [getsE_eq] at ht
    obtain ⟨y, hy⟩ : ∃ y : Nat, y = ((l.take k).map getsE).sum + (if e.kind = 5 then 1 else 0) := ⟨_, rfl⟩
    have z0 : IntKind.wrap .i64 ((((l.take k).map getsE).sum : Nat) + 1 : Int) = ((((l.take k).map getsE).sum + 1 : Nat) : Int) := by rw [IntWalk.i64_in _ (by split at ht <;> omega)]; omega
    have z1 : IntKind.wrap .i64 ((y : Int) + (getsEs e.kids : Nat)) = ((((l.take (k + 1)).map getsE).sum : Nat) : Int) := by rw [IntWalk.i64_in _ (by split at ht <;> split at hy <;> omega)]; split at ht <;> split at hy <;> omega
    refine awp_skip ?_; try simp only [RR]
    refine awp_seq ?_
    refine awp_block ?_
    refine awp_seq ?_
    refine awp_seq_k fun K hK => ?_
    refine awp_region rfl ?_
    simp only [f0, f4, hg, RR, seval]
    refine hK _ _ ?_; clear hK K
    refine awp_name fun F3 M3 hfr hH => ?_
    have g0 := hfr 0
    have g2 := hfr 2
    have g3 := hfr 3
    have g4 := hfr 4
    have g16 := hfr 16
    try simp only [f0, f2, f4, f3, RR, seval] at g0 g2 g3 g4 g16
    have ag0 : agree [0, 2] F2 F3 := agree.same hfr (by repeat (first | exact ag0 | refine agree.upd rfl ?_))
    have f0 := g0; clear g0
    have f2 := g2; clear g2
    have f3 := g3; clear g3
    have f4 := g4; clear g4
    have f16 := g16; clear g16
    clear hfr hH
    refine awp_cutP (fun fr M => agree [0, 2, 4] F3 fr ∧ fr 3 = .int .i64 (y : Nat)) (fun KC5 hKC5 => ?_) ?_
    ·have agC5 := agree.refl [0, 2, 4] F3
     refine awp_if _ (by first | rfl | exact f16) (fun hc5 => ?_) (fun hc5 => ?_)
     ·refine awp_region rfl ?_
      simp only [f3, z0, RR, seval]
      refine hKC5 _ _ ⟨(by repeat (first | exact agC5 | refine agree.upd rfl ?_)), ?_⟩
      first | (rw [hy, if_pos (of_decide_eq_true hc5)]; first | rfl | exact f3) | (rw [hy, if_neg (of_decide_eq_false hc5)]; first | rfl | exact f3)
     ·refine awp_skip ?_; try simp only [RR]
      refine hKC5 _ _ ⟨(by repeat (first | exact agC5 | refine agree.upd rfl ?_)), ?_⟩
      first | (rw [hy, if_pos (of_decide_eq_true hc5)]; first | rfl | exact f3) | (rw [hy, if_neg (of_decide_eq_false hc5)]; first | rfl | exact f3)
    rintro F4 M4 ⟨agx, f3⟩
    have f0 := (agx 0 rfl).trans f0
    have f2 := (agx 2 rfl).trans f2
    have f4 := (agx 4 rfl).trans f4
    have ag0 : agree [0, 2] F2 F4 := agree.sub agx rfl ag0
    clear agx
    simp only [RR, seval]
    refine awp_region rfl ?_
    simp only [f0, f4, f3, hg, RR, seval]
    refine awpC_pure' (hkd) ?_
    simp only [z1, RR, seval]
    refine awp_region rfl ?_
    simp only [f4, RR, seval]
    try rw [IntWalk.i64_in _ (by omega)]
    refine hK0 _ _ hlt0 ⟨by first | rfl | (simp only [upd_app, seval]; rfl), rfl⟩ (by repeat (first | exact ag0 | refine agree.upd rfl ?_))
   ·have hkn0 : k = l.length := by have := of_decide_eq_false hc; omega
    clear hc
    rw [hkn0, List.take_length] at f3
    refine awp_exit ?_; simp only [RR, seval]
    refine awp_seq_k fun K hK => ?_
    refine awp_region rfl ?_
    simp only [f3, RR, seval]
    refine hK _ _ ?_; clear hK K
    refine awp_ret ?_; simp only [bodyQ, aresult, ares, RR, seval]
    refine Gives.pure ?_
    rfl
theorem inStmts_con (n : Nat) : ∀ l : List CS, szCS l ≤ n → n ≤ 1000000000 → PCon env 25 [.isl 6 (l.map CS.row)] (.int .i64 (getsSs l : Nat)) := by
 induction n using Nat.strongRecOn with
 | _ n ih =>
   intro l hn hb
   have hl := szCS_len l
   have hgl := getsSs_le n l hn
   rw [getsSs_map] at *
   refine con_of 34 [.tmp 2] Tryd.func25 rfl rfl rfl rfl ?_
   refine awp_seq_k fun K hK => ?_
   refine awp_region rfl ?_
   simp only [RR, seval]
   refine hK _ _ ?_; clear hK K
   refine awp_seq_k fun K hK => ?_
   refine awp_region rfl ?_
   simp only [RR, seval]
   refine hK _ _ ?_; clear hK K
   refine awp_seq ?_
   refine awp_seq_k fun K hK => ?_
   refine awp_region rfl ?_
   simp only [RR, seval]
   refine hK _ _ ?_; clear hK K
   refine awp_name fun F1 M1 hfr hH => ?_
   have g0 := hfr 0
   have g2 := hfr 2
   have g3 := hfr 3
   have g4 := hfr 4
   try simp only [RR, seval] at g0 g2 g3 g4
   have f0 := g0; clear g0
   have f2 := g2; clear g2
   have f3 := g3; clear g3
   have f4 := g4; clear g4
   clear hfr hH
   refine awp_block ?_
   refine awp_each [0, 2] (l.length) (fun k fr M => fr 4 = .int .i64 (k : Nat) ∧ fr 3 = .int .i64 (((l.take k).map getsS).sum : Nat)) ⟨f4, by simp [f3]⟩ ?_
   rintro k F2 M2 hk0 ⟨fx, f3⟩ agx K0 hK0
   have f0 := (agx 0 rfl).trans f0
   have f2 := (agx 2 rfl).trans f2
   have f4 := fx; clear fx
   have ag0 := agree.refl [0, 2] F2
   clear agx
   refine awp_seq ?_
   refine awp_seq_k fun K hK => ?_
   refine awp_region rfl ?_
   simp only [f0, f4, List.length_map, RR, seval]
   refine hK _ _ ?_; clear hK K
   refine awp_if _ rfl (fun hc => ?_) (fun hc => ?_)
   ·have hlt0 : k < l.length := by have := of_decide_eq_true hc; omega
    clear hc
    have hg0 := List.getElem?_eq_getElem hlt0
    have hm := szCS_mem (List.getElem_mem hlt0)
    have hle := sum_le getsS l (k + 1)
    have ht := sum_take getsS hg0
    have hs := (l[k]).sz_eq
    have c1 := inExprs_con (szCE (l[k]).es) (l[k]).es (Nat.le_refl _) (by omega)
    have c2 := ih (szCS (l[k]).thn) (by omega) (l[k]).thn (Nat.le_refl _) (by omega)
    have c3 := ih (szCS (l[k]).els) (by omega) (l[k]).els (Nat.le_refl _) (by omega)
    have hg := getCS hg0
    generalize l[k] = e at hg0 hm ht hs c1 c2 c3 hg
    rw [getsS_eq] at ht
    have z1 : IntKind.wrap .i64 ((((l.take k).map getsS).sum : Nat) + (getsEs e.es : Nat) : Int) = ((((l.take k).map getsS).sum + getsEs e.es : Nat) : Int) := by rw [IntWalk.i64_in _ (by omega)]; omega
    have z2 : IntKind.wrap .i64 (((((l.take k).map getsS).sum + getsEs e.es : Nat) : Int) + (getsSs e.thn : Nat)) = ((((l.take k).map getsS).sum + getsEs e.es + getsSs e.thn : Nat) : Int) := by rw [IntWalk.i64_in _ (by omega)]; omega
    have z3 : IntKind.wrap .i64 (((((l.take k).map getsS).sum + getsEs e.es + getsSs e.thn : Nat) : Int) + (getsSs e.els : Nat)) = ((((l.take (k + 1)).map getsS).sum : Nat) : Int) := by rw [IntWalk.i64_in _ (by omega)]; omega
    refine awp_skip ?_; try simp only [RR]
    refine awp_seq ?_
    refine awp_block ?_
    refine awp_region_draw2 (fun x => True) [(0, 3), (1, 3), (2, 3), (3, 3), (4, 3), (5, 1), (8, 3), (9, 3), (10, 3), (11, 3), (12, 0), (15, 3), (16, 3), (17, 3), (18, 3), (19, 0), (6, 1), (7, 3), (13, 1), (14, 3), (20, 1), (21, 3), (22, 3)] [] draws (by kernel_rfl) rfl rfl ?_
    simp only [emitF, markOf, f0, f4, f3, hg, touchI, RR, seval]
    refine awpC_pure' (c1) ?_
    simp only [z1, RR, seval]
    refine awpC_pure' (c2) ?_
    simp only [z2, RR, seval]
    refine awpC_pure' (c3) ?_
    simp only [z3, RR, seval]
    refine awp_region rfl ?_
    simp only [f4, RR, seval]
    try rw [IntWalk.i64_in _ (by omega)]
    refine hK0 _ _ hlt0 ⟨by first | rfl | (simp only [upd_app, seval]; rfl), rfl⟩ (by repeat (first | exact ag0 | refine agree.upd rfl ?_))
   ·have hkn0 : k = l.length := by have := of_decide_eq_false hc; omega
    clear hc
    rw [hkn0, List.take_length] at f3
    refine awp_exit ?_; simp only [RR, seval]
    refine awp_seq_k fun K hK => ?_
    refine awp_region rfl ?_
    simp only [f3, RR, seval]
    refine hK _ _ ?_; clear hK K
    refine awp_ret ?_; simp only [bodyQ, aresult, ares, RR, seval]
    refine Gives.pure ?_
    rfl
theorem gets_con (c : Co) (hb : sizC c ≤ 1000000000) (hf : c.funs.length ≤ 1000000) : PCon env 12 [c.av] (.int .i64 (getsC c : Nat)) := by
 have hav : c.av = .agg [.int .i64 c.words, .isl 5 (c.funs.map CF.row)] := rfl
 rw [hav]
 have hgl : ∀ f ∈ c.funs, szCS f.body ≤ 1000000000 := fun f hf => by have := mem_sum (fun f : CF => szCS f.body) hf; unfold sizC at hb; omega
 have hgs : getsC c ≤ sizC c := by
  unfold getsC sizC
  generalize c.funs = fs
  induction fs with
  | nil => simp
  | cons f l ih => have := getsSs_le _ f.body (Nat.le_refl _); simp only [List.map_cons, List.sum_cons]; omega
 unfold getsC sizC at *
 generalize c.funs = fs at *
 refine con_of 22 [.tmp 2] Tryd.func12 rfl rfl rfl rfl ?_
 refine awp_seq_k fun K hK => ?_
 refine awp_region rfl ?_
 simp only [RR, seval]
 refine awpN_intro fun b1 hn1 => ?_
 simp only [RR, seval]
 refine hK _ _ ?_; clear hK K
 refine awp_seq_k fun K hK => ?_
 refine awp_region rfl ?_
 simp only [RR, seval]
 refine hK _ _ ?_; clear hK K
 refine awp_seq ?_
 refine awp_seq_k fun K hK => ?_
 refine awp_region rfl ?_
 simp only [RR, seval]
 refine hK _ _ ?_; clear hK K
 refine awp_name fun F1 M1 hfr hH => ?_
 have g1 := hfr 1
 have g2 := hfr 2
 have g3 := hfr 3
 have g4 := hfr 4
 have gb1 := hH b1
 try simp only [RR, seval] at g1 g2 g3 g4 gb1
 have f1 := g1; clear g1
 have f2 := g2; clear g2
 have f3 := g3; clear g3
 have f4 := g4; clear g4
 have hb1 := gb1; clear gb1
 clear hfr hH
 refine awp_block ?_
 refine awp_each [1, 2] (fs.length) (fun k fr M => fr 4 = .int .i64 (k : Nat) ∧ M b1 = M1 b1 ∧ fr 3 = .int .i64 (((fs.take k).map fun f => getsSs f.body).sum : Nat)) ⟨f4, rfl, by simp [f3]⟩ ?_
 rintro k F2 M2 hk0 ⟨fx, gb1, f3⟩ agx K0 hK0
 have f1 := (agx 1 rfl).trans f1
 have f2 := (agx 2 rfl).trans f2
 have f4 := fx; clear fx
 have hb1 := gb1.trans hb1
 have ag0 := agree.refl [1, 2] F2
 have e0_b1 := gb1; clear gb1
 clear agx
 refine awp_seq ?_
 refine awp_seq_k fun K hK => ?_
 refine awp_region rfl ?_
 simp only [f1, f4, hb1, List.length_map, RR, seval]
 refine hK _ _ ?_; clear hK K
 refine awp_if _ rfl (fun hc => ?_) (fun hc => ?_)
 ·have hlt0 : k < fs.length := by have := of_decide_eq_true hc; omega
  clear hc
  have hg0 := List.getElem?_eq_getElem hlt0
  have hle := sum_le (fun f : CF => getsSs f.body) fs (k + 1)
  have ht := sum_take (fun f : CF => getsSs f.body) hg0
  have hkd := inStmts_con (szCS (fs[k]).body) (fs[k]).body (Nat.le_refl _) (hgl _ (List.getElem_mem hlt0))
  have hg := getCF hg0
  generalize fs[k] = f at hg0 ht hkd hg
  have z1 : IntKind.wrap .i64 ((((fs.take k).map fun f => getsSs f.body).sum : Nat) + (getsSs f.body : Nat) : Int) = (((fs.take (k + 1)).map fun f => getsSs f.body).sum : Nat) := by rw [IntWalk.i64_in _ (by omega)]; omega
  refine awp_skip ?_; try simp only [RR]
  refine awp_seq ?_
  refine awp_block ?_
  refine awp_region rfl ?_
  simp only [f1, f4, f3, hb1, hg, RR, seval]
  refine awpC_pure' (hkd) ?_
  simp only [z1, RR, seval]
  refine awp_region rfl ?_
  simp only [f4, RR, seval]
  try rw [IntWalk.i64_in _ (by omega)]
  refine hK0 _ _ hlt0 ⟨by first | rfl | (simp only [upd_app, seval]; rfl), (by first | exact e0_b1 | (simp only [upd_app, seval]; first | done | exact e0_b1)), rfl⟩ (by repeat (first | exact ag0 | refine agree.upd rfl ?_))
 ·have hkn0 : k = fs.length := by have := of_decide_eq_false hc; omega
  clear hc
  rw [hkn0, List.take_length] at f3
  refine awp_exit ?_; simp only [RR, seval]
  refine awp_seq_k fun K hK => ?_
  refine awp_region rfl ?_
  simp only [f3, RR, seval]
  refine hK _ _ ?_; clear hK K
  refine awp_ret ?_; simp only [bodyQ, aresult, ares, RR, seval]
  refine Gives.pure ?_
  rfl
def resB (a b : Int × Str × Nat) : Bool := decide (a.1 = b.1) && (decide (a.2.1 = b.2.1) && decide ((a.2.2 : Int) = (b.2.2 : Int)))
theorem rSame_con (e e' : Int) (o o' : Str) (t t' : Nat) : PCon env 9 [.agg [.int .i64 e, .str o, .int .i64 t], .agg [.int .i64 e', .str o', .int .i64 t']] (.bool (resB (e, o, t) (e', o', t'))) := by
 unfold resB
 refine con_of 24 [.tmp 4] Tryd.func9 rfl rfl rfl rfl ?_
 refine awp_seq_k fun K hK => ?_
 refine awp_region rfl ?_
 simp only [RR, seval]
 refine awpN_intro fun b2 hn2 => ?_
 simp only [RR, seval]
 refine awpN_intro fun b3 hn3 => ?_
 have nb3_b2 : b3 ≠ b2 := fun e => by rw [e] at hn3; simp only [RR, seval, reduceCtorEq] at hn3
 have nb2_b3 : b2 ≠ b3 := fun e => nb3_b2 e.symm
 simp only [RR, seval]
 refine hK _ _ ?_; clear hK K
 refine awp_seq_k fun K hK => ?_
 refine awp_region rfl ?_
 simp only [nb2_b3, RR, seval]
 repeat' ((first | refine awpG_splitN (fun h => ?_) (fun h => ?_) | refine awpG_split (fun h => ?_) (fun h => ?_)) <;> simp only [h, nb2_b3, RR, seval])
 all_goals
  refine hK _ _ ?_; clear hK K
  refine awp_ret ?_; simp only [bodyQ, aresult, ares, RR, seval]
  refine Gives.pure ?_
  simp_all
end Go.Proofs.YtnfbbjhdflhmjaaDoor
