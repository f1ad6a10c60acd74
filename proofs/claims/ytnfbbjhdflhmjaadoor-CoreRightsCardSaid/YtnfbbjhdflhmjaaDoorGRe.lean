/- Chapter 19, the judge's: how great is a core? CoreRights. -/
import Derived.Test.YtnfbbjhdflhmjaaDoorGRc
import Derived.Test.YtnfbbjhdflhmjaaDoorGRd
set_option linter.unusedSimpArgs false
set_option linter.unusedVariables false
set_option maxRecDepth 10000
namespace Go.Al
theorem rV : ∀ l : List CE, dM l = (l.map CE.sz).sum
 | [] => rfl
 | e :: l => by simp only [dM, List.map_cons, List.sum_cons, rV l]
theorem rU : ∀ l : List CS, cP l = (l.map CS.sz).sum
 | [] => rfl
 | e :: l => by simp only [cP, List.map_cons, List.sum_cons, rU l]
end Go.Al
namespace Go.Proofs.YtnfbbjhdflhmjaaDoor
open Go.Al
theorem Fd (n : Nat) : ∀ l : List CE, dM l ≤ n → n ≤ 1000000000 → dG cO 48 [.isl 6 (l.map CE.row)] (.int .i64 (dM l : Nat)) := by
 induction n using Nat.strongRecOn with
 | _ n ih =>
   intro l hn hb
   have hlen := mJ l
   rw [rV] at *
   have hz : ∀ k, ((l.take k).map CE.sz).sum ≤ (l.map CE.sz).sum := qZ CE.sz l
   have hl0 : ∀ k (h : k < l.length), ((l.take (k + 1)).map CE.sz).sum = ((l.take k).map CE.sz).sum + 1 + dM l[k].kids := fun k h => by
    rw [jQ CE.sz (aH h), (l[k]).sz_eq]; omega
   have hge : ∀ k, k ≤ l.length → k ≤ ((l.take k).map CE.sz).sum := fun k => by
    induction k with
    | zero => intro _; exact Nat.zero_le _
    | succ k ihk => intro h; rw [hl0 k (by omega)]; have := ihk (by omega); omega
   have hrest : ∀ k, k ≤ l.length → ((l.take k).map CE.sz).sum + (l.length - k) ≤ (l.map CE.sz).sum := fun k => by
    intro hk
    have h1 : l.map CE.sz = (l.take k).map CE.sz ++ (l.drop k).map CE.sz := by rw [← List.map_append, List.take_append_drop]
    have h2 := mJ (l.drop k)
    rw [rV, List.length_drop] at h2
    rw [h1, List.sum_append]; omega
   refine bD 22 [.tmp 2] Tryd.func48 rfl rfl rfl rfl ?_
   refine aB fun K hK => ?_
   refine aA rfl ?_
   simp only [RR, seval]
   refine hK _ _ ?_; clear hK K
   refine aB fun K hK => ?_
   refine aA rfl ?_
   simp only [aD, RR, seval]
   refine hK _ _ ?_; clear hK K
   refine aJ ?_
   refine aB fun K hK => ?_
   refine aA rfl ?_
   simp only [RR, seval]
   refine hK _ _ ?_; clear hK K
   refine bG fun F1 M1 hfr hH => ?_
   have g0 := hfr 0
   have g2 := hfr 2
   have g3 := hfr 3
   have g4 := hfr 4
   try simp only [RR, seval] at g0 g2 g3 g4
   have f0 := g0; clear g0
   have f2 := g2; clear g2
   have f3 := g3; clear g3
   have f4 := g4; clear g4
   clear hfr hH
   refine aQ ?_
   refine bY [0, 2] (l.length) (fun k fr M => fr 4 = .int .i64 (k : Nat) ∧ fr 3 = .int .i64 ((((l.take k).map CE.sz).sum + (l.length - k) : Nat) : Int)) ⟨f4, by rw [f3]; simp⟩ ?_
   rintro k F2 M2 hk0 ⟨fx, f3⟩ agx K0 hK0
   have f0 := (agx 0 rfl).trans f0
   have f2 := (agx 2 rfl).trans f2
   have f4 := fx; clear fx
   have ag0 := aW.refl [0, 2] F2
   clear agx
   refine aJ ?_
   refine aB fun K hK => ?_
   refine aA rfl ?_
   simp only [f0, f4, aD, RR, seval]
   refine hK _ _ ?_; clear hK K
   refine aI _ rfl (fun hc => ?_) (fun hc => ?_)
   ·have hlt0 : k < l.length := by have := aC hc; omega
    clear hc
    have hg := jF (aH hlt0)
    have ht := hl0 k hlt0
    have hr := hrest (k + 1) hlt0
    have hm := jP (bA hlt0)
    rw [rV] at hm
    have hs := (l[k]).sz_eq
    have hkd := ih (dM (l[k]).kids) (by omega) (l[k]).kids (aY _) (by omega)
    generalize l[k] = e at hg ht hkd hs hm
    have z1 : IntKind.wrap .i64 ((((l.take k).map CE.sz).sum + (l.length - k) : Nat) + (dM e.kids : Nat) : Int) = ((((l.take (k + 1)).map CE.sz).sum + (l.length - (k + 1)) : Nat) : Int) := by rw [aR _ (by omega)]; omega
    refine aL ?_; try simp only [RR]
    refine aJ ?_
    refine aQ ?_
    refine aA rfl ?_
    simp only [f0, f4, f3, hg, RR, seval]
    refine aO (hkd) ?_
    simp only [z1, RR, seval]
    refine aA rfl ?_
    simp only [f4, RR, seval]
    try rw [aR _ (by omega)]
    refine hK0 _ _ hlt0 ⟨by first | rfl | (simp only [aG, seval]; rfl), rfl⟩ (by repeat (first | exact ag0 | refine aW.upd rfl ?_))
   have hkn0 : k = l.length := by have := aF hc; omega
   clear hc
   rw [hkn0, List.take_length, Nat.sub_self, Nat.add_zero] at f3
   refine bH ?_; simp only [RR, seval]
   refine aB fun K hK => ?_
   refine aA rfl ?_
   simp only [f3, RR, seval]
   refine hK _ _ ?_; clear hK K
   refine aP ?_; simp only [aV, aM, bE, RR, seval]
   refine aU.pure ?_
   rfl
theorem Fc (n : Nat) : ∀ l : List CS, cP l ≤ n → n ≤ 1000000000 → dG cO 33 [.isl 6 (l.map CS.row)] (.int .i64 (cP l : Nat)) := by
 induction n using Nat.strongRecOn with
 | _ n ih =>
   intro l hn hb
   have hlen := oR l
   rw [rU] at *
   have hl0 : ∀ k (h : k < l.length), ((l.take (k + 1)).map CS.sz).sum = ((l.take k).map CS.sz).sum + 1 + dM l[k].es + cP l[k].thn + cP l[k].els := fun k h => by
    rw [jQ CS.sz (aH h), (l[k]).sz_eq]; omega
   have hrest : ∀ k, k ≤ l.length → ((l.take k).map CS.sz).sum + (l.length - k) ≤ (l.map CS.sz).sum := fun k => by
    intro hk
    have h1 : l.map CS.sz = (l.take k).map CS.sz ++ (l.drop k).map CS.sz := by rw [← List.map_append, List.take_append_drop]
    have h2 := oR (l.drop k)
    rw [rU, List.length_drop] at h2
    rw [h1, List.sum_append]; omega
   refine bD 36 [.tmp 2] Tryd.func33 rfl rfl rfl rfl ?_
   refine aB fun K hK => ?_
   refine aA rfl ?_
   simp only [RR, seval]
   refine hK _ _ ?_; clear hK K
   refine aB fun K hK => ?_
   refine aA rfl ?_
   simp only [aD, RR, seval]
   refine hK _ _ ?_; clear hK K
   refine aJ ?_
   refine aB fun K hK => ?_
   refine aA rfl ?_
   simp only [RR, seval]
   refine hK _ _ ?_; clear hK K
   refine bG fun F1 M1 hfr hH => ?_
   have g0 := hfr 0
   have g2 := hfr 2
   have g3 := hfr 3
   have g4 := hfr 4
   try simp only [RR, seval] at g0 g2 g3 g4
   have f0 := g0; clear g0
   have f2 := g2; clear g2
   have f3 := g3; clear g3
   have f4 := g4; clear g4
   clear hfr hH
   refine aQ ?_
   refine bY [0, 2] (l.length) (fun k fr M => fr 4 = .int .i64 (k : Nat) ∧ fr 3 = .int .i64 ((((l.take k).map CS.sz).sum + (l.length - k) : Nat) : Int)) ⟨f4, by rw [f3]; simp⟩ ?_
   rintro k F2 M2 hk0 ⟨fx, f3⟩ agx K0 hK0
   have f0 := (agx 0 rfl).trans f0
   have f2 := (agx 2 rfl).trans f2
   have f4 := fx; clear fx
   have ag0 := aW.refl [0, 2] F2
   clear agx
   refine aJ ?_
   refine aB fun K hK => ?_
   refine aA rfl ?_
   simp only [f0, f4, aD, RR, seval]
   refine hK _ _ ?_; clear hK K
   refine aI _ rfl (fun hc => ?_) (fun hc => ?_)
   ·have hlt0 : k < l.length := by have := aC hc; omega
    clear hc
    have hg := oZ (aH hlt0)
    have ht := hl0 k hlt0
    have hr := hrest (k + 1) hlt0
    have hm := jO (bA hlt0)
    rw [rU] at hm
    have hs := (l[k]).sz_eq
    have hke := Fd (dM (l[k]).es) (l[k]).es (aY _) (by omega)
    have hkt := ih (cP (l[k]).thn) (by omega) (l[k]).thn (aY _) (by omega)
    have hku := ih (cP (l[k]).els) (by omega) (l[k]).els (aY _) (by omega)
    generalize l[k] = e at hg ht hke hkt hku hs hm
    obtain ⟨s, hse⟩ : ∃ s : Nat, s = ((l.take k).map CS.sz).sum + (l.length - k) := ⟨_, rfl⟩
    rw [← hse] at f3
    have z1 : IntKind.wrap .i64 ((s : Nat) + (dM e.es : Nat) : Int) = ((s + dM e.es : Nat) : Int) := by rw [aR _ (by omega)]; omega
    have z2 : IntKind.wrap .i64 (((s + dM e.es : Nat) : Int) + (cP e.thn : Nat) : Int) = ((s + dM e.es + cP e.thn : Nat) : Int) := by rw [aR _ (by omega)]; omega
    have z3 : IntKind.wrap .i64 (((s + dM e.es + cP e.thn : Nat) : Int) + (cP e.els : Nat) : Int) = ((((l.take (k + 1)).map CS.sz).sum + (l.length - (k + 1)) : Nat) : Int) := by rw [aR _ (by omega)]; omega
    refine aL ?_; try simp only [RR]
    refine aJ ?_
    refine aQ ?_
    refine bC (fun x => True) [(0, 3), (1, 3), (2, 3), (3, 3), (4, 3), (5, 1), (8, 3), (9, 3), (10, 3), (11, 3), (12, 0), (15, 3), (16, 3), (17, 3), (18, 3), (19, 0), (6, 1), (7, 3), (13, 1), (14, 3), (20, 1), (21, 3), (22, 3)] [] dB (by kernel_rfl) rfl rfl ?_
    simp only [bW, dJ, f0, f4, f3, Ql, hg, RR, seval]
    refine aO (hke) ?_
    simp only [z1, RR, seval]
    refine aO (hkt) ?_
    simp only [z2, RR, seval]
    refine aO (hku) ?_
    simp only [z3, RR, seval]
    refine aA rfl ?_
    simp only [f4, RR, seval]
    try rw [aR _ (by omega)]
    refine hK0 _ _ hlt0 ⟨by first | rfl | (simp only [aG, seval]; rfl), rfl⟩ (by repeat (first | exact ag0 | refine aW.upd rfl ?_))
   have hkn0 : k = l.length := by have := aF hc; omega
   clear hc
   rw [hkn0, List.take_length, Nat.sub_self, Nat.add_zero] at f3
   refine bH ?_; simp only [RR, seval]
   refine aB fun K hK => ?_
   refine aA rfl ?_
   simp only [f3, RR, seval]
   refine hK _ _ ?_; clear hK K
   refine aP ?_; simp only [aV, aM, bE, RR, seval]
   refine aU.pure ?_
   rfl
theorem Np (c : Co) (hb : oT c ≤ 1000000000) (hf : c.funs.length ≤ 1000000) : dG cO 19 [c.av] (.int .i64 (oT c : Nat)) := by
 have hav : c.av = .agg [.int .i64 c.words, .isl 5 (c.funs.map CF.row)] := rfl
 rw [hav]
 unfold oT at *
 generalize c.funs = fs at *
 refine bD 22 [.tmp 2] Tryd.func19 rfl rfl rfl rfl ?_
 refine aB fun K hK => ?_
 refine aA rfl ?_
 simp only [RR, seval]
 refine aK fun b1 hn1 => ?_
 simp only [RR, seval]
 refine hK _ _ ?_; clear hK K
 refine aB fun K hK => ?_
 refine aA rfl ?_
 simp only [RR, seval]
 refine hK _ _ ?_; clear hK K
 refine aJ ?_
 refine aB fun K hK => ?_
 refine aA rfl ?_
 simp only [RR, seval]
 refine hK _ _ ?_; clear hK K
 refine bG fun F1 M1 hfr hH => ?_
 have g1 := hfr 1
 have g2 := hfr 2
 have g3 := hfr 3
 have g4 := hfr 4
 have gb1 := hH b1
 try simp only [RR, seval] at g1 g2 g3 g4 gb1
 have f1 := g1; clear g1
 have f2 := g2; clear g2
 have f3 := g3; clear g3
 have f4 := g4; clear g4
 have hb1 := gb1; clear gb1
 clear hfr hH
 refine aQ ?_
 refine bY [1, 2] (fs.length) (fun k fr M => fr 4 = .int .i64 (k : Nat) ∧ M b1 = M1 b1 ∧ fr 3 = .int .i64 (((fs.take k).map fun f => cP f.body).sum : Nat)) ⟨f4, rfl, by simp [f3]⟩ ?_
 rintro k F2 M2 hk0 ⟨fx, gb1, f3⟩ agx K0 hK0
 have f1 := (agx 1 rfl).trans f1
 have f2 := (agx 2 rfl).trans f2
 have f4 := fx; clear fx
 have hb1 := gb1.trans hb1
 have ag0 := aW.refl [1, 2] F2
 have e0_b1 := gb1; clear gb1
 clear agx
 refine aJ ?_
 refine aB fun K hK => ?_
 refine aA rfl ?_
 simp only [f1, f4, hb1, aD, RR, seval]
 refine hK _ _ ?_; clear hK K
 refine aI _ rfl (fun hc => ?_) (fun hc => ?_)
 ·have hlt0 : k < fs.length := by have := aC hc; omega
  clear hc
  have hg0 := aH hlt0
  have hle := qZ (fun f : CF => cP f.body) fs (k + 1)
  have ht := jQ (fun f : CF => cP f.body) hg0
  have hkd := Fc (cP (fs[k]).body) (fs[k]).body (aY _) (by have := sC (fun f : CF => cP f.body) (bA hlt0); omega)
  have hg := jE hg0
  generalize fs[k] = f at hg0 ht hkd hg
  have z1 : IntKind.wrap .i64 ((((fs.take k).map fun f => cP f.body).sum : Nat) + (cP f.body : Nat) : Int) = (((fs.take (k + 1)).map fun f => cP f.body).sum : Nat) := by rw [aR _ (by omega)]; omega
  refine aL ?_; try simp only [RR]
  refine aJ ?_
  refine aQ ?_
  refine aA rfl ?_
  simp only [f1, f4, f3, hb1, hg, RR, seval]
  refine aO (hkd) ?_
  simp only [z1, RR, seval]
  refine aA rfl ?_
  simp only [f4, RR, seval]
  try rw [aR _ (by omega)]
  refine hK0 _ _ hlt0 ⟨by first | rfl | (simp only [aG, seval]; rfl), (by first | exact e0_b1 | (simp only [aG, seval]; first | done | exact e0_b1)), rfl⟩ (by repeat (first | exact ag0 | refine aW.upd rfl ?_))
 have hkn0 : k = fs.length := by have := aF hc; omega
 clear hc
 rw [hkn0, List.take_length] at f3
 refine bH ?_; simp only [RR, seval]
 refine aB fun K hK => ?_
 refine aA rfl ?_
 simp only [f3, RR, seval]
 refine hK _ _ ?_; clear hK K
 refine aP ?_; simp only [aV, aM, bE, RR, seval]
 refine aU.pure ?_
 rfl
set_option maxHeartbeats 4000000 in
theorem yN (c : Co) (hc : c.ok) (d : Co) (hd : d.ok) : dG cO 6 [c.av, d.av] (.bool true) := by
 have hfa := wV c hc 400 (by omega)
 have hfb := wV d hd 400 (by omega)
 have r1 := Jx c hc
 have r2 := rZ c hc
 have s1 := Az c d hc hd
 have s2 := Ox c d hc hd
 have s3 := Az c c hc hc
 rw [eY] at s3
 have hz : wW c ((400 : Nat) : Int) = true → oT c ≤ 1000000000 ∧ c.funs.length ≤ 1000000 := fun h1 => by
  simp only [wW, aX, bF] at h1
  have := Cd c.funs ((400 : Nat) : Int) (by omega) h1.2
  exact ⟨by unfold oT; omega, by omega⟩
 have z1 := fun h1 h2 => Ay c h1 h2
 have z2 := fun h1 h2 => Np c h1 h2
 have h1 : c.av = .agg [.int .i64 c.words, .isl 5 (c.funs.map CF.row)] := rfl
 have h2 : d.av = .agg [.int .i64 d.words, .isl 5 (d.funs.map CF.row)] := rfl
 generalize uI c d = sm at *
 generalize iA c = rg at *
 by_cases hq : wW c ((400 : Nat) : Int) = true ∧ wW d ((400 : Nat) : Int) = true
 rotate_left
 ·generalize wW c ((400 : Nat) : Int) = q1 at *
  generalize wW d ((400 : Nat) : Int) = q2 at *
  rw [h1, h2] at *
  refine bD 46 [.tmp 4] Tryd.func6 rfl rfl rfl rfl ?_
  refine aB fun K hK => ?_
  refine aA rfl ?_
  simp only [RR, seval]
  refine aK fun b2 hn2 => ?_
  simp only [RR, seval]
  refine aK fun b3 hn3 => ?_
  have nb3_b2 : b3 ≠ b2 := fun e => by rw [e] at hn3; simp only [RR, seval, reduceCtorEq] at hn3
  have nb2_b3 : b2 ≠ b3 := fun e => nb3_b2 e.symm
  simp only [RR, seval]
  refine hK _ _ ?_; clear hK K
  refine aJ ?_
  refine aB fun K hK => ?_
  refine aA rfl ?_
  simp only [RR, seval]
  refine aO (eL) ?_
  simp only [RR, seval]
  refine hK _ _ ?_; clear hK K
  refine aI false rfl (fun hc => by cases hc) (fun _ => ?_)
  refine aL ?_; try simp only [RR]
  refine aJ ?_
  refine bG fun F1 M1 hfr hH => ?_
  have g2 := hfr 2
  have g3 := hfr 3
  have g4 := hfr 4
  have gb2 := hH b2
  have gb3 := hH b3
  try simp only [nb2_b3, RR, seval] at g2 g3 g4 gb2 gb3
  have f2 := g2; clear g2
  have f3 := g3; clear g3
  have f4 := g4; clear g4
  have hb2 := gb2; clear gb2
  have hb3 := gb3; clear gb3
  clear hfr hH
  refine dH (fun fr M => aW [2, 3] F1 fr ∧ M b2 = M1 b2 ∧ M b3 = M1 b3 ∧ False) (fun KS3 hKS3 => ?_) ?_
  ·have agS3 := aW.refl [2, 3] F1
   have eS3_b2 : M1 b2 = M1 b2 := rfl
   have eS3_b3 : M1 b3 = M1 b3 := rfl
   refine aB fun K hK => ?_
   refine aA rfl ?_
   simp only [f2, hb2, RR, seval]
   all_goals try (refine aO (hfa) ?_; simp only [RR, seval])
   all_goals try ((first | refine aS (fun h => ?_) (fun h => ?_) | refine aT (fun h => ?_) (fun h => ?_)) <;> simp only [h, f3, hb3, RR, seval])
   all_goals try (refine aO (hfb) ?_; simp only [RR, seval])
   all_goals
    refine hK _ _ ?_; clear hK K
    refine aI _ rfl (fun hc3 => ?_) (fun hc3 => ?_)
    ·try (cases hc3; done)
     all_goals
      refine aB fun K hK => ?_
      refine aA rfl ?_
      simp only [RR, seval]
      refine hK _ _ ?_; clear hK K
      refine aP ?_; simp only [aV, aM, bE, RR, seval]
      refine aU.pure ?_
      rfl
    try (cases hc3; done)
    all_goals
     refine aL ?_; try simp only [RR]
     refine hKS3 _ _ ⟨(by repeat (first | exact agS3 | refine aW.upd rfl ?_)), (by first | exact eS3_b2 | (simp only [nb3_b2, nb2_b3, aG, seval]; first | done | exact eS3_b2)), (by first | exact eS3_b3 | (simp only [nb3_b2, nb2_b3, aG, seval]; first | done | exact eS3_b3)), ?_⟩
     exact hq ⟨by simpa using ‹(!q1) = false›, by simpa using hc3⟩
  rintro F2 M2 ⟨agx, gb2, gb3, hx⟩
  have f2 := (agx 2 rfl).trans f2
  have f3 := (agx 3 rfl).trans f3
  have hb2 := gb2.trans hb2
  have hb3 := gb3.trans hb3
  clear agx
  clear gb2
  clear gb3
  simp only [RR, seval]
  exact hx.elim
 obtain ⟨g1, g2⟩ := hz hq.1
 have z1 := z1 g1 g2
 have z2 := z2 g1 g2
 rw [hq.1] at hfa
 rw [hq.2] at hfb
 clear hz hq
 generalize ((oT c : Nat) : Int) = sz at z1 z2
 rw [h1, h2] at *
 cases rg
 ·cases sm
  ·skip
   refine bD 46 [.tmp 4] Tryd.func6 rfl rfl rfl rfl ?_
   refine aB fun K hK => ?_
   refine aA rfl ?_
   simp only [RR, seval]
   refine aK fun b2 hn2 => ?_
   simp only [RR, seval]
   refine aK fun b3 hn3 => ?_
   have nb3_b2 : b3 ≠ b2 := fun e => by rw [e] at hn3; simp only [RR, seval, reduceCtorEq] at hn3
   have nb2_b3 : b2 ≠ b3 := fun e => nb3_b2 e.symm
   simp only [RR, seval]
   refine hK _ _ ?_; clear hK K
   refine aJ ?_
   refine aB fun K hK => ?_
   refine aA rfl ?_
   simp only [RR, seval]
   refine aO (eL) ?_
   simp only [RR, seval]
   refine hK _ _ ?_; clear hK K
   refine aI false rfl (fun hc => by cases hc) (fun _ => ?_)
   refine aL ?_; try simp only [RR]
   refine aJ ?_
   refine aB fun K hK => ?_
   refine aA rfl ?_
   simp only [nb2_b3, RR, seval]
   refine aO (hfa) ?_
   simp only [RR, seval]
   refine aO (hfb) ?_
   simp only [RR, seval]
   refine hK _ _ ?_; clear hK K
   refine aI false rfl (fun hc => by cases hc) (fun _ => ?_)
   refine aL ?_; try simp only [RR]
   refine aB fun K hK => ?_
   refine aA rfl ?_
   simp only [nb2_b3, RR, seval]
   refine aO (r2) ?_
   simp only [RR, seval]
   refine hK _ _ ?_; clear hK K
   refine aJ ?_
   refine aB fun K hK => ?_
   refine bC (fun x => x ≠ b2 ∧ x ≠ b3) [(0, 1), (2, 3), (1, 1), (3, 3), (4, 3), (5, 1), (6, 1), (8, 0), (9, 0), (7, 1), (10, 1), (11, 3), (12, 3), (13, 3), (14, 1), (15, 1), (16, 1), (17, 3), (18, 3)] [] dB (by kernel_rfl) rfl rfl ?_
   simp only [bW, dJ, nb2_b3, RR, seval]
   refine aO (r1) ?_
   simp only [nb3_b2, nb2_b3, RR, seval]
   refine aO (s1) ?_
   simp only [RR, seval]
   refine aO (s2) ?_
   simp only [nb2_b3, RR, seval]
   refine aO (s3) ?_
   simp only [RR, seval]
   refine hK _ _ ?_; clear hK K
   refine aI false rfl (fun hc => by cases hc) (fun _ => ?_)
   refine aL ?_; try simp only [RR]
   refine aB fun K hK => ?_
   refine bC (fun x => x ≠ b2 ∧ x ≠ b3) [(0, 3), (1, 3), (2, 3), (3, 1), (5, 0), (4, 1), (6, 1), (7, 3), (8, 3), (9, 3)] [] dB (by kernel_rfl) rfl rfl ?_
   simp only [bW, dJ, RR, seval]
   refine hK _ _ ?_; clear hK K
   refine aP ?_; simp only [aV, aM, bE, RR, seval]
   refine aU.pure ?_
   rfl
  skip
  refine bD 46 [.tmp 4] Tryd.func6 rfl rfl rfl rfl ?_
  refine aB fun K hK => ?_
  refine aA rfl ?_
  simp only [RR, seval]
  refine aK fun b2 hn2 => ?_
  simp only [RR, seval]
  refine aK fun b3 hn3 => ?_
  have nb3_b2 : b3 ≠ b2 := fun e => by rw [e] at hn3; simp only [RR, seval, reduceCtorEq] at hn3
  have nb2_b3 : b2 ≠ b3 := fun e => nb3_b2 e.symm
  simp only [RR, seval]
  refine hK _ _ ?_; clear hK K
  refine aJ ?_
  refine aB fun K hK => ?_
  refine aA rfl ?_
  simp only [RR, seval]
  refine aO (eL) ?_
  simp only [RR, seval]
  refine hK _ _ ?_; clear hK K
  refine aI false rfl (fun hc => by cases hc) (fun _ => ?_)
  refine aL ?_; try simp only [RR]
  refine aJ ?_
  refine aB fun K hK => ?_
  refine aA rfl ?_
  simp only [nb2_b3, RR, seval]
  refine aO (hfa) ?_
  simp only [RR, seval]
  refine aO (hfb) ?_
  simp only [RR, seval]
  refine hK _ _ ?_; clear hK K
  refine aI false rfl (fun hc => by cases hc) (fun _ => ?_)
  refine aL ?_; try simp only [RR]
  refine aB fun K hK => ?_
  refine aA rfl ?_
  simp only [nb2_b3, RR, seval]
  refine aO (r2) ?_
  simp only [RR, seval]
  refine hK _ _ ?_; clear hK K
  refine aJ ?_
  refine aB fun K hK => ?_
  refine bC (fun x => x ≠ b2 ∧ x ≠ b3) [(0, 1), (2, 3), (1, 1), (3, 3), (4, 3), (5, 1), (6, 1), (8, 0), (9, 0), (7, 1), (10, 1), (11, 3), (12, 3), (13, 3), (14, 1), (15, 1), (16, 1), (17, 3), (18, 3)] [] dB (by kernel_rfl) rfl rfl ?_
  simp only [bW, dJ, nb2_b3, RR, seval]
  refine aO (r1) ?_
  simp only [nb3_b2, nb2_b3, RR, seval]
  refine aO (s1) ?_
  simp only [RR, seval]
  refine aO (s2) ?_
  simp only [nb2_b3, RR, seval]
  refine aO (s3) ?_
  simp only [RR, seval]
  refine hK _ _ ?_; clear hK K
  refine aI false rfl (fun hc => by cases hc) (fun _ => ?_)
  refine aL ?_; try simp only [RR]
  refine aB fun K hK => ?_
  refine bC (fun x => x ≠ b2 ∧ x ≠ b3) [(0, 3), (1, 3), (2, 3), (3, 1), (5, 0), (4, 1), (6, 1), (7, 3), (8, 3), (9, 3)] [] dB (by kernel_rfl) rfl rfl ?_
  simp only [bW, dJ, RR, seval]
  refine hK _ _ ?_; clear hK K
  refine aP ?_; simp only [aV, aM, bE, RR, seval]
  refine aU.pure ?_
  rfl
 cases sm
 ·skip
  refine bD 46 [.tmp 4] Tryd.func6 rfl rfl rfl rfl ?_
  refine aB fun K hK => ?_
  refine aA rfl ?_
  simp only [RR, seval]
  refine aK fun b2 hn2 => ?_
  simp only [RR, seval]
  refine aK fun b3 hn3 => ?_
  have nb3_b2 : b3 ≠ b2 := fun e => by rw [e] at hn3; simp only [RR, seval, reduceCtorEq] at hn3
  have nb2_b3 : b2 ≠ b3 := fun e => nb3_b2 e.symm
  simp only [RR, seval]
  refine hK _ _ ?_; clear hK K
  refine aJ ?_
  refine aB fun K hK => ?_
  refine aA rfl ?_
  simp only [RR, seval]
  refine aO (eL) ?_
  simp only [RR, seval]
  refine hK _ _ ?_; clear hK K
  refine aI false rfl (fun hc => by cases hc) (fun _ => ?_)
  refine aL ?_; try simp only [RR]
  refine aJ ?_
  refine aB fun K hK => ?_
  refine aA rfl ?_
  simp only [nb2_b3, RR, seval]
  refine aO (hfa) ?_
  simp only [RR, seval]
  refine aO (hfb) ?_
  simp only [RR, seval]
  refine hK _ _ ?_; clear hK K
  refine aI false rfl (fun hc => by cases hc) (fun _ => ?_)
  refine aL ?_; try simp only [RR]
  refine aB fun K hK => ?_
  refine aA rfl ?_
  simp only [nb2_b3, RR, seval]
  refine aO (r2) ?_
  simp only [RR, seval]
  refine hK _ _ ?_; clear hK K
  refine aJ ?_
  refine aB fun K hK => ?_
  refine bC (fun x => x ≠ b2 ∧ x ≠ b3) [(0, 1), (2, 3), (1, 1), (3, 3), (4, 3), (5, 1), (6, 1), (8, 0), (9, 0), (7, 1), (10, 1), (11, 3), (12, 3), (13, 3), (14, 1), (15, 1), (16, 1), (17, 3), (18, 3)] [] dB (by kernel_rfl) rfl rfl ?_
  simp only [bW, dJ, nb2_b3, RR, seval]
  refine aO (r1) ?_
  simp only [nb3_b2, nb2_b3, RR, seval]
  refine aO (s1) ?_
  simp only [RR, seval]
  refine aO (s2) ?_
  simp only [nb2_b3, RR, seval]
  refine aO (s3) ?_
  simp only [RR, seval]
  refine hK _ _ ?_; clear hK K
  refine aI false rfl (fun hc => by cases hc) (fun _ => ?_)
  refine aL ?_; try simp only [RR]
  refine aB fun K hK => ?_
  refine bC (fun x => x ≠ b2 ∧ x ≠ b3) [(0, 3), (1, 3), (2, 3), (3, 1), (5, 0), (4, 1), (6, 1), (7, 3), (8, 3), (9, 3)] [] dB (by kernel_rfl) rfl rfl ?_
  simp only [bW, dJ, nb2_b3, RR, seval]
  refine aO (z1) ?_
  simp only [RR, seval]
  refine aO (z2) ?_
  simp only [RR, seval]
  refine hK _ _ ?_; clear hK K
  refine aP ?_; simp only [aV, aM, bE, RR, seval]
  refine aU.pure ?_
  rfl
 skip
 refine bD 46 [.tmp 4] Tryd.func6 rfl rfl rfl rfl ?_
 refine aB fun K hK => ?_
 refine aA rfl ?_
 simp only [RR, seval]
 refine aK fun b2 hn2 => ?_
 simp only [RR, seval]
 refine aK fun b3 hn3 => ?_
 have nb3_b2 : b3 ≠ b2 := fun e => by rw [e] at hn3; simp only [RR, seval, reduceCtorEq] at hn3
 have nb2_b3 : b2 ≠ b3 := fun e => nb3_b2 e.symm
 simp only [RR, seval]
 refine hK _ _ ?_; clear hK K
 refine aJ ?_
 refine aB fun K hK => ?_
 refine aA rfl ?_
 simp only [RR, seval]
 refine aO (eL) ?_
 simp only [RR, seval]
 refine hK _ _ ?_; clear hK K
 refine aI false rfl (fun hc => by cases hc) (fun _ => ?_)
 refine aL ?_; try simp only [RR]
 refine aJ ?_
 refine aB fun K hK => ?_
 refine aA rfl ?_
 simp only [nb2_b3, RR, seval]
 refine aO (hfa) ?_
 simp only [RR, seval]
 refine aO (hfb) ?_
 simp only [RR, seval]
 refine hK _ _ ?_; clear hK K
 refine aI false rfl (fun hc => by cases hc) (fun _ => ?_)
 refine aL ?_; try simp only [RR]
 refine aB fun K hK => ?_
 refine aA rfl ?_
 simp only [nb2_b3, RR, seval]
 refine aO (r2) ?_
 simp only [RR, seval]
 refine hK _ _ ?_; clear hK K
 refine aJ ?_
 refine aB fun K hK => ?_
 refine bC (fun x => x ≠ b2 ∧ x ≠ b3) [(0, 1), (2, 3), (1, 1), (3, 3), (4, 3), (5, 1), (6, 1), (8, 0), (9, 0), (7, 1), (10, 1), (11, 3), (12, 3), (13, 3), (14, 1), (15, 1), (16, 1), (17, 3), (18, 3)] [] dB (by kernel_rfl) rfl rfl ?_
 simp only [bW, dJ, nb2_b3, RR, seval]
 refine aO (r1) ?_
 simp only [nb3_b2, nb2_b3, RR, seval]
 refine aO (s1) ?_
 simp only [RR, seval]
 refine aO (s2) ?_
 simp only [nb2_b3, RR, seval]
 refine aO (s3) ?_
 simp only [RR, seval]
 refine hK _ _ ?_; clear hK K
 refine aI false rfl (fun hc => by cases hc) (fun _ => ?_)
 refine aL ?_; try simp only [RR]
 refine aB fun K hK => ?_
 refine bC (fun x => x ≠ b2 ∧ x ≠ b3) [(0, 3), (1, 3), (2, 3), (3, 1), (5, 0), (4, 1), (6, 1), (7, 3), (8, 3), (9, 3)] [] dB (by kernel_rfl) rfl rfl ?_
 simp only [bW, dJ, nb2_b3, RR, seval]
 refine aO (z1) ?_
 simp only [RR, seval]
 refine aO (z2) ?_
 simp only [RR, seval]
 refine hK _ _ ?_; clear hK K
 refine aP ?_; simp only [aV, aM, bE, RR, seval]
 refine aU.pure ?_
 rfl
end Go.Proofs.YtnfbbjhdflhmjaaDoor
