/- Chapter 19: how great a core is; how many gets there are; are results alike? -/
import Derived.Test.YtnfbbjhdflhmjaaDoorGLc
set_option linter.unusedSimpArgs false
set_option linter.unusedVariables false
set_option maxRecDepth 10000
namespace Go.Al
theorem jQ {α : Type} (z : α → Nat) : ∀ {l : List α} {k : Nat} {e : α}, l[k]? = some e → ((l.take (k + 1)).map z).sum = ((l.take k).map z).sum + z e
 | [], k, e, h => by simp at h
 | x :: l, 0, e, h => by simp only [List.getElem?_cons_zero, Option.some.injEq] at h; subst h; simp
 | x :: l, k + 1, e, h => by
   simp only [List.getElem?_cons_succ] at h
   have := jQ z h
   simp only [List.take_succ_cons, List.map_cons, List.sum_cons, this]; omega
theorem qZ {α : Type} (z : α → Nat) : ∀ (l : List α) (k : Nat), ((l.take k).map z).sum ≤ (l.map z).sum
 | [], k => by simp
 | x :: l, 0 => by simp
 | x :: l, k + 1 => by have := qZ z l k; simp only [List.take_succ_cons, List.map_cons, List.sum_cons]; omega
theorem sC {α : Type} (z : α → Nat) : ∀ {l : List α} {e : α}, e ∈ l → z e ≤ (l.map z).sum
 | x :: l, e, h => by
   simp only [List.map_cons, List.sum_cons]
   rcases List.mem_cons.1 h with rfl | h
   ·omega
   have := sC z h; omega
theorem wQ : ∀ l : List CE, eP l = (l.map kW).sum
 | [] => rfl
 | e :: l => by simp only [eP, wQ l, List.map_cons, List.sum_cons]
theorem wP : ∀ l : List CS, dZ l = (l.map kU).sum
 | [] => rfl
 | e :: l => by simp only [dZ, wP l, List.map_cons, List.sum_cons]
theorem Fv (e : CE) : kW e = (if e.kind = 5 then 1 else 0) + eP e.kids := by cases e; rw [kW]; rfl
theorem Ft (e : CS) : kU e = eP e.es + dZ e.thn + dZ e.els := by cases e; simp only [kU, CS.es, CS.thn, CS.els]
theorem Aq (n : Nat) : ∀ l : List CE, dM l ≤ n → eP l ≤ dM l := by
 induction n with
 | zero => intro l h; cases l with | nil => simp [eP] | cons e l => have := e.sz_eq; simp only [dM] at h; omega
 | succ n ih =>
   intro l
   induction l with
   | nil => intro _; simp [eP]
   | cons e l ihl =>
     intro h
     have hs := e.sz_eq
     simp only [dM] at h ⊢
     have h1 := ih e.kids (by omega)
     have h2 := ihl (by omega)
     simp only [eP, Fv]
     split <;> omega
theorem Ap (n : Nat) : ∀ l : List CS, cP l ≤ n → dZ l ≤ cP l := by
 induction n with
 | zero => intro l h; cases l with | nil => simp [dZ] | cons e l => have := e.sz_eq; simp only [cP] at h; omega
 | succ n ih =>
   intro l
   induction l with
   | nil => intro _; simp [dZ]
   | cons e l ihl =>
     intro h
     have hs := e.sz_eq
     simp only [cP] at h ⊢
     have h1 := Aq (dM e.es) e.es (aY _)
     have h2 := ih e.thn (by omega)
     have h3 := ih e.els (by omega)
     have h4 := ihl (by omega)
     simp only [dZ, Ft]
     omega
theorem Ql (row : List AV) (j : Nat) : (∀ b : Nat, iC (.ipt row j) = some b → False) = True := propext ⟨fun _ => trivial, fun _ _ h => by cases h⟩
def wR (c : Co) : Nat := (c.funs.map fun f => dZ f.body).sum
end Go.Al
namespace Go.Proofs.YtnfbbjhdflhmjaaDoor
open Go.Al
theorem Ay (c : Co) (hb : oT c ≤ 1000000000) (hf : c.funs.length ≤ 1000000) : dG cO 18 [c.av] (.int .i64 (oT c : Nat)) := by
 have hav : c.av = .agg [.int .i64 c.words, .isl 5 (c.funs.map CF.row)] := rfl
 rw [hav]
 unfold oT at *
 generalize c.funs = fs at *
 refine bD 20 [.tmp 2] Tryd.func18 rfl rfl rfl rfl ?_
 refine aB fun K hK => ?_
 refine aA rfl ?_
 simp only [RR, seval]
 refine aK fun b1 hn1 => ?_
 simp only [RR, seval]
 refine hK _ _ ?_; clear hK K
 refine aB fun K hK => ?_
 refine aA rfl ?_
 simp only [RR, seval]
 refine hK _ _ ?_; clear hK K
 refine aJ ?_
 refine aB fun K hK => ?_
 refine aA rfl ?_
 simp only [aD, RR, seval]
 refine hK _ _ ?_; clear hK K
 refine bG fun F1 M1 hfr hH => ?_
 have g2 := hfr 2
 have g3 := hfr 3
 have g7 := hfr 7
 have g8 := hfr 8
 have g9 := hfr 9
 have gb1 := hH b1
 try simp only [RR, seval] at g2 g3 g7 g8 g9 gb1
 have f2 := g2; clear g2
 have f3 := g3; clear g3
 have f7 := g7; clear g7
 have f8 := g8; clear g8
 have f9 := g9; clear g9
 have hb1 := gb1; clear gb1
 clear hfr hH
 refine aQ ?_
 refine bY [2, 7, 8] (fs.length) (fun k fr M => fr 9 = .int .i64 (k : Nat) ∧ M b1 = M1 b1 ∧ fr 3 = .int .i64 (((fs.take k).map fun f => cP f.body).sum : Nat)) ⟨f9, rfl, by simp [f3]⟩ ?_
 rintro k F2 M2 hk0 ⟨fx, gb1, f3⟩ agx K0 hK0
 have f2 := (agx 2 rfl).trans f2
 have f7 := (agx 7 rfl).trans f7
 have f8 := (agx 8 rfl).trans f8
 have f9 := fx; clear fx
 have hb1 := gb1.trans hb1
 have ag0 := aW.refl [2, 7, 8] F2
 have e0_b1 := gb1; clear gb1
 clear agx
 refine aB fun K hK => ?_
 refine aA rfl ?_
 simp only [f8, f9, RR, seval]
 refine hK _ _ ?_; clear hK K
 refine aJ ?_
 refine aI _ rfl (fun hc => ?_) (fun hc => ?_)
 ·have hlt0 : k < fs.length := by have := aC hc; omega
  clear hc
  have hg0 := aH hlt0
  have hle := qZ (fun f : CF => cP f.body) fs (k + 1)
  have ht := jQ (fun f : CF => cP f.body) hg0
  have hkd := yX (cP (fs[k]).body) (fs[k]).body (aY _) (by have := sC (fun f : CF => cP f.body) (bA hlt0); omega)
  have hg := jE hg0
  generalize fs[k] = f at hg0 ht hkd hg
  have z1 : IntKind.wrap .i64 ((((fs.take k).map fun f => cP f.body).sum : Nat) + (cP f.body : Nat) : Int) = (((fs.take (k + 1)).map fun f => cP f.body).sum : Nat) := by rw [aR _ (by omega)]; omega
  refine aL ?_; try simp only [RR]
  refine aJ ?_
  refine aQ ?_
  refine aB fun K hK => ?_
  refine aA rfl ?_
  simp only [f7, f9, hg, RR, seval]
  refine aK fun b5 hn5 => ?_
  have nb5_b1 : b5 ≠ b1 := fun e => by rw [e] at hn5; simp only [hb1, seval, reduceCtorEq] at hn5
  have nb1_b5 : b1 ≠ b5 := fun e => nb5_b1 e.symm
  simp only [RR, seval]
  refine hK _ _ ?_; clear hK K
  refine aA rfl ?_
  simp only [f3, RR, seval]
  refine aO (hkd) ?_
  simp only [z1, RR, seval]
  refine aA rfl ?_
  simp only [f9, RR, seval]
  try rw [aR _ (by omega)]
  refine hK0 _ _ hlt0 ⟨by first | rfl | (simp only [aG, seval]; rfl), (by first | exact e0_b1 | (simp only [nb1_b5, aG, seval]; first | done | exact e0_b1)), rfl⟩ (by repeat (first | exact ag0 | refine aW.upd rfl ?_))
 have hkn0 : k = fs.length := by have := aF hc; omega
 clear hc
 rw [hkn0, List.take_length] at f3
 refine bH ?_; simp only [RR, seval]
 refine aB fun K hK => ?_
 refine aA rfl ?_
 simp only [f3, RR, seval]
 refine hK _ _ ?_; clear hK K
 refine aP ?_; simp only [aV, aM, bE, RR, seval]
 refine aU.pure ?_
 rfl
theorem Fh (n : Nat) : ∀ l : List CE, dM l ≤ n → n ≤ 1000000000 → dG cO 39 [.isl 6 (l.map CE.row)] (.int .i64 (eP l : Nat)) := by
 induction n using Nat.strongRecOn with
 | _ n ih =>
   intro l hn hb
   have hl := mJ l
   have hgl := Aq n l hn
   rw [wQ] at *
   refine bD 28 [.tmp 2] Tryd.func39 rfl rfl rfl rfl ?_
   refine aB fun K hK => ?_
   refine aA rfl ?_
   simp only [RR, seval]
   refine hK _ _ ?_; clear hK K
   refine aB fun K hK => ?_
   refine aA rfl ?_
   simp only [RR, seval]
   refine hK _ _ ?_; clear hK K
   refine aJ ?_
   refine aB fun K hK => ?_
   refine aA rfl ?_
   simp only [RR, seval]
   refine hK _ _ ?_; clear hK K
   refine bG fun F1 M1 hfr hH => ?_
   have g0 := hfr 0
   have g2 := hfr 2
   have g3 := hfr 3
   have g4 := hfr 4
   try simp only [RR, seval] at g0 g2 g3 g4
   have f0 := g0; clear g0
   have f2 := g2; clear g2
   have f3 := g3; clear g3
   have f4 := g4; clear g4
   clear hfr hH
   refine aQ ?_
   refine bY [0, 2] (l.length) (fun k fr M => fr 4 = .int .i64 (k : Nat) ∧ fr 3 = .int .i64 (((l.take k).map kW).sum : Nat)) ⟨f4, by simp [f3]⟩ ?_
   rintro k F2 M2 hk0 ⟨fx, f3⟩ agx K0 hK0
   have f0 := (agx 0 rfl).trans f0
   have f2 := (agx 2 rfl).trans f2
   have f4 := fx; clear fx
   have ag0 := aW.refl [0, 2] F2
   clear agx
   refine aJ ?_
   refine aB fun K hK => ?_
   refine aA rfl ?_
   simp only [f0, f4, aD, RR, seval]
   refine hK _ _ ?_; clear hK K
   refine aI _ rfl (fun hc => ?_) (fun hc => ?_)
   ·have hlt0 : k < l.length := by have := aC hc; omega
    clear hc
    have hg0 := aH hlt0
    have hm := jP (bA hlt0)
    have hle := qZ kW l (k + 1)
    have ht := jQ kW hg0
    have hs := (l[k]).sz_eq
    have hkd := ih (dM (l[k]).kids) (by omega) (l[k]).kids (aY _) (by omega)
    have hg := jF hg0
    generalize l[k] = e at hg0 hm ht hs hkd hg
    rw [Fv] at ht
    obtain ⟨y, hy⟩ : ∃ y : Nat, y = ((l.take k).map kW).sum + (if e.kind = 5 then 1 else 0) := ⟨_, rfl⟩
    have z0 : IntKind.wrap .i64 ((((l.take k).map kW).sum : Nat) + 1 : Int) = ((((l.take k).map kW).sum + 1 : Nat) : Int) := by rw [aR _ (by split at ht <;> omega)]; omega
    have z1 : IntKind.wrap .i64 ((y : Int) + (eP e.kids : Nat)) = ((((l.take (k + 1)).map kW).sum : Nat) : Int) := by rw [aR _ (by split at ht <;> split at hy <;> omega)]; split at ht <;> split at hy <;> omega
    refine aL ?_; try simp only [RR]
    refine aJ ?_
    refine aQ ?_
    refine aJ ?_
    refine aB fun K hK => ?_
    refine aA rfl ?_
    simp only [f0, f4, hg, RR, seval]
    refine hK _ _ ?_; clear hK K
    refine bG fun F3 M3 hfr hH => ?_
    have g0 := hfr 0
    have g2 := hfr 2
    have g3 := hfr 3
    have g4 := hfr 4
    have g16 := hfr 16
    try simp only [f0, f2, f4, f3, RR, seval] at g0 g2 g3 g4 g16
    have ag0 : aW [0, 2] F2 F3 := aW.same hfr (by repeat (first | exact ag0 | refine aW.upd rfl ?_))
    have f0 := g0; clear g0
    have f2 := g2; clear g2
    have f3 := g3; clear g3
    have f4 := g4; clear g4
    have f16 := g16; clear g16
    clear hfr hH
    refine dH (fun fr M => aW [0, 2, 4] F3 fr ∧ fr 3 = .int .i64 (y : Nat)) (fun KC5 hKC5 => ?_) ?_
    ·have agC5 := aW.refl [0, 2, 4] F3
     refine aI _ (by first | rfl | exact f16) (fun hc5 => ?_) (fun hc5 => ?_)
     ·refine aA rfl ?_
      simp only [f3, z0, RR, seval]
      refine hKC5 _ _ ⟨(by repeat (first | exact agC5 | refine aW.upd rfl ?_)), ?_⟩
      first | (rw [hy, if_pos (aC hc5)]; first | rfl | exact f3) | (rw [hy, if_neg (aF hc5)]; first | rfl | exact f3)
     refine aL ?_; try simp only [RR]
     refine hKC5 _ _ ⟨(by repeat (first | exact agC5 | refine aW.upd rfl ?_)), ?_⟩
     first | (rw [hy, if_pos (aC hc5)]; first | rfl | exact f3) | (rw [hy, if_neg (aF hc5)]; first | rfl | exact f3)
    rintro F4 M4 ⟨agx, f3⟩
    have f0 := (agx 0 rfl).trans f0
    have f2 := (agx 2 rfl).trans f2
    have f4 := (agx 4 rfl).trans f4
    have ag0 : aW [0, 2] F2 F4 := aW.sub agx rfl ag0
    clear agx
    simp only [RR, seval]
    refine aA rfl ?_
    simp only [f0, f4, f3, hg, RR, seval]
    refine aO (hkd) ?_
    simp only [z1, RR, seval]
    refine aA rfl ?_
    simp only [f4, RR, seval]
    try rw [aR _ (by omega)]
    refine hK0 _ _ hlt0 ⟨by first | rfl | (simp only [aG, seval]; rfl), rfl⟩ (by repeat (first | exact ag0 | refine aW.upd rfl ?_))
   have hkn0 : k = l.length := by have := aF hc; omega
   clear hc
   rw [hkn0, List.take_length] at f3
   refine bH ?_; simp only [RR, seval]
   refine aB fun K hK => ?_
   refine aA rfl ?_
   simp only [f3, RR, seval]
   refine hK _ _ ?_; clear hK K
   refine aP ?_; simp only [aV, aM, bE, RR, seval]
   refine aU.pure ?_
   rfl
theorem Fg (n : Nat) : ∀ l : List CS, cP l ≤ n → n ≤ 1000000000 → dG cO 25 [.isl 6 (l.map CS.row)] (.int .i64 (dZ l : Nat)) := by
 induction n using Nat.strongRecOn with
 | _ n ih =>
   intro l hn hb
   have hl := oR l
   have hgl := Ap n l hn
   rw [wP] at *
   refine bD 34 [.tmp 2] Tryd.func25 rfl rfl rfl rfl ?_
   refine aB fun K hK => ?_
   refine aA rfl ?_
   simp only [RR, seval]
   refine hK _ _ ?_; clear hK K
   refine aB fun K hK => ?_
   refine aA rfl ?_
   simp only [RR, seval]
   refine hK _ _ ?_; clear hK K
   refine aJ ?_
   refine aB fun K hK => ?_
   refine aA rfl ?_
   simp only [RR, seval]
   refine hK _ _ ?_; clear hK K
   refine bG fun F1 M1 hfr hH => ?_
   have g0 := hfr 0
   have g2 := hfr 2
   have g3 := hfr 3
   have g4 := hfr 4
   try simp only [RR, seval] at g0 g2 g3 g4
   have f0 := g0; clear g0
   have f2 := g2; clear g2
   have f3 := g3; clear g3
   have f4 := g4; clear g4
   clear hfr hH
   refine aQ ?_
   refine bY [0, 2] (l.length) (fun k fr M => fr 4 = .int .i64 (k : Nat) ∧ fr 3 = .int .i64 (((l.take k).map kU).sum : Nat)) ⟨f4, by simp [f3]⟩ ?_
   rintro k F2 M2 hk0 ⟨fx, f3⟩ agx K0 hK0
   have f0 := (agx 0 rfl).trans f0
   have f2 := (agx 2 rfl).trans f2
   have f4 := fx; clear fx
   have ag0 := aW.refl [0, 2] F2
   clear agx
   refine aJ ?_
   refine aB fun K hK => ?_
   refine aA rfl ?_
   simp only [f0, f4, aD, RR, seval]
   refine hK _ _ ?_; clear hK K
   refine aI _ rfl (fun hc => ?_) (fun hc => ?_)
   ·have hlt0 : k < l.length := by have := aC hc; omega
    clear hc
    have hg0 := aH hlt0
    have hm := jO (bA hlt0)
    have hle := qZ kU l (k + 1)
    have ht := jQ kU hg0
    have hs := (l[k]).sz_eq
    have c1 := Fh (dM (l[k]).es) (l[k]).es (aY _) (by omega)
    have c2 := ih (cP (l[k]).thn) (by omega) (l[k]).thn (aY _) (by omega)
    have c3 := ih (cP (l[k]).els) (by omega) (l[k]).els (aY _) (by omega)
    have hg := oZ hg0
    generalize l[k] = e at hg0 hm ht hs c1 c2 c3 hg
    rw [Ft] at ht
    have z1 : IntKind.wrap .i64 ((((l.take k).map kU).sum : Nat) + (eP e.es : Nat) : Int) = ((((l.take k).map kU).sum + eP e.es : Nat) : Int) := by rw [aR _ (by omega)]; omega
    have z2 : IntKind.wrap .i64 (((((l.take k).map kU).sum + eP e.es : Nat) : Int) + (dZ e.thn : Nat)) = ((((l.take k).map kU).sum + eP e.es + dZ e.thn : Nat) : Int) := by rw [aR _ (by omega)]; omega
    have z3 : IntKind.wrap .i64 (((((l.take k).map kU).sum + eP e.es + dZ e.thn : Nat) : Int) + (dZ e.els : Nat)) = ((((l.take (k + 1)).map kU).sum : Nat) : Int) := by rw [aR _ (by omega)]; omega
    refine aL ?_; try simp only [RR]
    refine aJ ?_
    refine aQ ?_
    refine bC (fun x => True) [(0, 3), (1, 3), (2, 3), (3, 3), (4, 3), (5, 1), (8, 3), (9, 3), (10, 3), (11, 3), (12, 0), (15, 3), (16, 3), (17, 3), (18, 3), (19, 0), (6, 1), (7, 3), (13, 1), (14, 3), (20, 1), (21, 3), (22, 3)] [] dB (by kernel_rfl) rfl rfl ?_
    simp only [bW, dJ, f0, f4, f3, hg, Ql, RR, seval]
    refine aO (c1) ?_
    simp only [z1, RR, seval]
    refine aO (c2) ?_
    simp only [z2, RR, seval]
    refine aO (c3) ?_
    simp only [z3, RR, seval]
    refine aA rfl ?_
    simp only [f4, RR, seval]
    try rw [aR _ (by omega)]
    refine hK0 _ _ hlt0 ⟨by first | rfl | (simp only [aG, seval]; rfl), rfl⟩ (by repeat (first | exact ag0 | refine aW.upd rfl ?_))
   have hkn0 : k = l.length := by have := aF hc; omega
   clear hc
   rw [hkn0, List.take_length] at f3
   refine bH ?_; simp only [RR, seval]
   refine aB fun K hK => ?_
   refine aA rfl ?_
   simp only [f3, RR, seval]
   refine hK _ _ ?_; clear hK K
   refine aP ?_; simp only [aV, aM, bE, RR, seval]
   refine aU.pure ?_
   rfl
theorem Rt (c : Co) (hb : oT c ≤ 1000000000) (hf : c.funs.length ≤ 1000000) : dG cO 12 [c.av] (.int .i64 (wR c : Nat)) := by
 have hav : c.av = .agg [.int .i64 c.words, .isl 5 (c.funs.map CF.row)] := rfl
 rw [hav]
 have hgl : ∀ f ∈ c.funs, cP f.body ≤ 1000000000 := fun f hf => by have := sC (fun f : CF => cP f.body) hf; unfold oT at hb; omega
 have hgs : wR c ≤ oT c := by
  unfold wR oT
  generalize c.funs = fs
  induction fs with
  | nil => simp
  | cons f l ih => have := Ap _ f.body (aY _); simp only [List.map_cons, List.sum_cons]; omega
 unfold wR oT at *
 generalize c.funs = fs at *
 refine bD 22 [.tmp 2] Tryd.func12 rfl rfl rfl rfl ?_
 refine aB fun K hK => ?_
 refine aA rfl ?_
 simp only [RR, seval]
 refine aK fun b1 hn1 => ?_
 simp only [RR, seval]
 refine hK _ _ ?_; clear hK K
 refine aB fun K hK => ?_
 refine aA rfl ?_
 simp only [RR, seval]
 refine hK _ _ ?_; clear hK K
 refine aJ ?_
 refine aB fun K hK => ?_
 refine aA rfl ?_
 simp only [RR, seval]
 refine hK _ _ ?_; clear hK K
 refine bG fun F1 M1 hfr hH => ?_
 have g1 := hfr 1
 have g2 := hfr 2
 have g3 := hfr 3
 have g4 := hfr 4
 have gb1 := hH b1
 try simp only [RR, seval] at g1 g2 g3 g4 gb1
 have f1 := g1; clear g1
 have f2 := g2; clear g2
 have f3 := g3; clear g3
 have f4 := g4; clear g4
 have hb1 := gb1; clear gb1
 clear hfr hH
 refine aQ ?_
 refine bY [1, 2] (fs.length) (fun k fr M => fr 4 = .int .i64 (k : Nat) ∧ M b1 = M1 b1 ∧ fr 3 = .int .i64 (((fs.take k).map fun f => dZ f.body).sum : Nat)) ⟨f4, rfl, by simp [f3]⟩ ?_
 rintro k F2 M2 hk0 ⟨fx, gb1, f3⟩ agx K0 hK0
 have f1 := (agx 1 rfl).trans f1
 have f2 := (agx 2 rfl).trans f2
 have f4 := fx; clear fx
 have hb1 := gb1.trans hb1
 have ag0 := aW.refl [1, 2] F2
 have e0_b1 := gb1; clear gb1
 clear agx
 refine aJ ?_
 refine aB fun K hK => ?_
 refine aA rfl ?_
 simp only [f1, f4, hb1, aD, RR, seval]
 refine hK _ _ ?_; clear hK K
 refine aI _ rfl (fun hc => ?_) (fun hc => ?_)
 ·have hlt0 : k < fs.length := by have := aC hc; omega
  clear hc
  have hg0 := aH hlt0
  have hle := qZ (fun f : CF => dZ f.body) fs (k + 1)
  have ht := jQ (fun f : CF => dZ f.body) hg0
  have hkd := Fg (cP (fs[k]).body) (fs[k]).body (aY _) (hgl _ (bA hlt0))
  have hg := jE hg0
  generalize fs[k] = f at hg0 ht hkd hg
  have z1 : IntKind.wrap .i64 ((((fs.take k).map fun f => dZ f.body).sum : Nat) + (dZ f.body : Nat) : Int) = (((fs.take (k + 1)).map fun f => dZ f.body).sum : Nat) := by rw [aR _ (by omega)]; omega
  refine aL ?_; try simp only [RR]
  refine aJ ?_
  refine aQ ?_
  refine aA rfl ?_
  simp only [f1, f4, f3, hb1, hg, RR, seval]
  refine aO (hkd) ?_
  simp only [z1, RR, seval]
  refine aA rfl ?_
  simp only [f4, RR, seval]
  try rw [aR _ (by omega)]
  refine hK0 _ _ hlt0 ⟨by first | rfl | (simp only [aG, seval]; rfl), (by first | exact e0_b1 | (simp only [aG, seval]; first | done | exact e0_b1)), rfl⟩ (by repeat (first | exact ag0 | refine aW.upd rfl ?_))
 have hkn0 : k = fs.length := by have := aF hc; omega
 clear hc
 rw [hkn0, List.take_length] at f3
 refine bH ?_; simp only [RR, seval]
 refine aB fun K hK => ?_
 refine aA rfl ?_
 simp only [f3, RR, seval]
 refine hK _ _ ?_; clear hK K
 refine aP ?_; simp only [aV, aM, bE, RR, seval]
 refine aU.pure ?_
 rfl
def By (a b : Int × dL × Nat) : Bool := decide (a.1 = b.1) && (decide (a.2.1 = b.2.1) && decide ((a.2.2 : Int) = (b.2.2 : Int)))
theorem pS (e e' : Int) (o o' : dL) (t t' : Nat) : dG cO 9 [.agg [.int .i64 e, .str o, .int .i64 t], .agg [.int .i64 e', .str o', .int .i64 t']] (.bool (By (e, o, t) (e', o', t'))) := by
 unfold By
 refine bD 24 [.tmp 4] Tryd.func9 rfl rfl rfl rfl ?_
 refine aB fun K hK => ?_
 refine aA rfl ?_
 simp only [RR, seval]
 refine aK fun b2 hn2 => ?_
 simp only [RR, seval]
 refine aK fun b3 hn3 => ?_
 have nb3_b2 : b3 ≠ b2 := fun e => by rw [e] at hn3; simp only [RR, seval, reduceCtorEq] at hn3
 have nb2_b3 : b2 ≠ b3 := fun e => nb3_b2 e.symm
 simp only [RR, seval]
 refine hK _ _ ?_; clear hK K
 refine aB fun K hK => ?_
 refine aA rfl ?_
 simp only [nb2_b3, RR, seval]
 repeat' ((first | refine aS (fun h => ?_) (fun h => ?_) | refine aT (fun h => ?_) (fun h => ?_)) <;> simp only [h, nb2_b3, RR, seval])
 all_goals
  refine hK _ _ ?_; clear hK K
  refine aP ?_; simp only [aV, aM, bE, RR, seval]
  refine aU.pure ?_
  simp_all
end Go.Proofs.YtnfbbjhdflhmjaaDoor
