/- Chapter 19: CoreStays and CoreReads, where the judge's Right is known. -/
import Derived.Test.YtnfbbjhdflhmjaaDoorGLf
set_option linter.unusedSimpArgs false
set_option linter.unusedVariables false
set_option maxRecDepth 10000
namespace Go.Proofs.YtnfbbjhdflhmjaaDoor
open Go.Al
def sO (c : Co) (m : Nat) : Bool := wW c m && (decide (c.words ≤ 9000) && iA c)
def Cu : Prop := ∀ c : Co, c.ok → dG cO 14 [c.av] (.bool (iA c))
theorem yM (hR : Cu) (c : Co) (hc : c.ok) (m : Nat) (hm : m ≤ 1000) : dG cO 8 [c.av, .int .i64 (m : Nat)] (.bool (sO c m)) := by
 have h1 := wV c hc m hm
 have h2 := hR c hc
 have hav : c.av = .agg [.int .i64 c.words, .isl 5 (c.funs.map CF.row)] := rfl
 unfold sO
 rw [hav] at *
 generalize wW c m = q1 at *
 generalize iA c = q2 at *
 generalize hw : decide (c.words ≤ 9000) = q3
 cases q1
 ·skip
  refine bD 17 [.tmp 4] Tryd.func8 rfl rfl rfl rfl ?_
  refine aB fun K hK => ?_
  refine aA rfl ?_
  simp only [RR, seval]
  refine aK fun b2 hn2 => ?_
  simp only [RR, seval]
  refine hK _ _ ?_; clear hK K
  refine aB fun K hK => ?_
  refine aA rfl ?_
  simp only [RR, seval]
  refine aO (h1) ?_
  simp only [RR, seval]
  refine hK _ _ ?_; clear hK K
  refine aP ?_; simp only [aV, aM, bE, RR, seval]
  refine aU.pure ?_
  rfl
 cases q3
 ·skip
  refine bD 17 [.tmp 4] Tryd.func8 rfl rfl rfl rfl ?_
  refine aB fun K hK => ?_
  refine aA rfl ?_
  simp only [RR, seval]
  refine aK fun b2 hn2 => ?_
  simp only [RR, seval]
  refine hK _ _ ?_; clear hK K
  refine aB fun K hK => ?_
  refine aA rfl ?_
  simp only [RR, seval]
  refine aO (h1) ?_
  simp only [hw, RR, seval]
  refine hK _ _ ?_; clear hK K
  refine aP ?_; simp only [aV, aM, bE, RR, seval]
  refine aU.pure ?_
  rfl
 skip
 refine bD 17 [.tmp 4] Tryd.func8 rfl rfl rfl rfl ?_
 refine aB fun K hK => ?_
 refine aA rfl ?_
 simp only [RR, seval]
 refine aK fun b2 hn2 => ?_
 simp only [RR, seval]
 refine hK _ _ ?_; clear hK K
 refine aB fun K hK => ?_
 refine aA rfl ?_
 simp only [RR, seval]
 refine aO (h1) ?_
 simp only [hw, RR, seval]
 refine aO (h2) ?_
 simp only [RR, seval]
 refine hK _ _ ?_; clear hK K
 refine aP ?_; simp only [aV, aM, bE, RR, seval]
 refine aU.pure ?_
 rfl
theorem Ce {c : Co} (hc : c.ok) {m : Nat} (h : sO c m = true) : Te c ∧ oT c ≤ m := by
 simp only [sO, aX, bF] at h
 refine ⟨Wt hc h.2.2, ?_⟩
 have h1 := h.1
 simp only [wW, aX, bF] at h1
 have := Cd c.funs (m : Int) (by omega) h1.2
 unfold oT; omega
theorem xB {c : Co} (h : Te c) (inp : dL) (hin : inp.length ≤ 2000000) (fu : Int) (hfu : cX fu) : ∃ n r, nB (qQ c inp fu) n c.words.toNat = some r ∧ dG cO 10 [c.av, .str inp, .int .i64 fu] (vA r.1 r.2.1 r.2.2) := by
 have hne : (qQ c inp fu).funs ≠ [] := fun e => by have := h.len.1; have e : c.funs = [] := e; rw [e] at this; simp at this
 have hfs : tX ((c.words.toNat : Nat) : Int) (qQ c inp fu).funs := by rw [Int.toNat_of_nonneg h.words.1]; exact h.funs
 obtain ⟨n, ⟨e, o, t⟩, hr⟩ := Ir hne hfs
 exact ⟨n, (e, o, t), hr, Ml c h.words.1 (Rl h) h.len.1 (by have := h.len.2; omega) inp hin fu hfu hr⟩
set_option maxHeartbeats 4000000 in
theorem yO (hR : Cu) (c : Co) (hc : c.ok) (inp tH : dL) : dG cO 5 [c.av, .str inp, .str tH] (.bool true) := by
 have hf := yM hR c hc 200 (by omega)
 have hfi := fun h => Ce (m := 200) hc h
 have hgt := fun h1 h2 => Rt c h1 h2
 have hav : c.av = .agg [.int .i64 c.words, .isl 5 (c.funs.map CF.row)] := rfl
 generalize hq1 : sO c 200 = q1 at *
 cases q1
 ·rw [hav] at *
  refine bD 34 [.tmp 6] Tryd.func5 rfl rfl rfl rfl ?_
  refine aB fun K hK => ?_
  refine aA rfl ?_
  simp only [RR, seval]
  refine aK fun b3 hn3 => ?_
  simp only [RR, seval]
  refine hK _ _ ?_; clear hK K
  refine aJ ?_
  refine aB fun K hK => ?_
  refine aA rfl ?_
  simp only [RR, seval]
  refine aO (eL) ?_
  simp only [RR, seval]
  refine hK _ _ ?_; clear hK K
  refine aI false rfl (fun hc => by cases hc) (fun _ => ?_)
  refine aL ?_; try simp only [RR]
  refine aJ ?_
  refine aB fun K hK => ?_
  refine aA rfl ?_
  simp only [RR, seval]
  refine aO (hf) ?_
  simp only [RR, seval]
  refine hK _ _ ?_; clear hK K
  refine aI true rfl (fun _ => ?_) (fun hc => by cases hc)
  refine aB fun K hK => ?_
  refine aA rfl ?_
  simp only [RR, seval]
  refine hK _ _ ?_; clear hK K
  refine aP ?_; simp only [aV, aM, bE, RR, seval]
  refine aU.pure ?_
  rfl
 generalize hq2 : decide ((60 : Int) < (inp.length : Int)) = q2
 cases q2
 rotate_left
 ·rw [hav] at *
  refine bD 34 [.tmp 6] Tryd.func5 rfl rfl rfl rfl ?_
  refine aB fun K hK => ?_
  refine aA rfl ?_
  simp only [RR, seval]
  refine aK fun b3 hn3 => ?_
  simp only [RR, seval]
  refine hK _ _ ?_; clear hK K
  refine aJ ?_
  refine aB fun K hK => ?_
  refine aA rfl ?_
  simp only [RR, seval]
  refine aO (eL) ?_
  simp only [RR, seval]
  refine hK _ _ ?_; clear hK K
  refine aI false rfl (fun hc => by cases hc) (fun _ => ?_)
  refine aL ?_; try simp only [RR]
  refine aJ ?_
  refine aB fun K hK => ?_
  refine aA rfl ?_
  simp only [RR, seval]
  refine aO (hf) ?_
  simp only [hq2, RR, seval]
  refine hK _ _ ?_; clear hK K
  refine aI true rfl (fun _ => ?_) (fun hc => by cases hc)
  refine aB fun K hK => ?_
  refine aA rfl ?_
  simp only [RR, seval]
  refine hK _ _ ?_; clear hK K
  refine aP ?_; simp only [aV, aM, bE, RR, seval]
  refine aU.pure ?_
  rfl
 generalize hq3 : decide ((60 : Int) < (tH.length : Int)) = q3
 cases q3
 rotate_left
 ·rw [hav] at *
  refine bD 34 [.tmp 6] Tryd.func5 rfl rfl rfl rfl ?_
  refine aB fun K hK => ?_
  refine aA rfl ?_
  simp only [RR, seval]
  refine aK fun b3 hn3 => ?_
  simp only [RR, seval]
  refine hK _ _ ?_; clear hK K
  refine aJ ?_
  refine aB fun K hK => ?_
  refine aA rfl ?_
  simp only [RR, seval]
  refine aO (eL) ?_
  simp only [RR, seval]
  refine hK _ _ ?_; clear hK K
  refine aI false rfl (fun hc => by cases hc) (fun _ => ?_)
  refine aL ?_; try simp only [RR]
  refine aJ ?_
  refine aB fun K hK => ?_
  refine aA rfl ?_
  simp only [RR, seval]
  refine aO (hf) ?_
  simp only [hq2, hq3, RR, seval]
  refine hK _ _ ?_; clear hK K
  refine aI true rfl (fun _ => ?_) (fun hc => by cases hc)
  refine aB fun K hK => ?_
  refine aA rfl ?_
  simp only [RR, seval]
  refine hK _ _ ?_; clear hK K
  refine aP ?_; simp only [aV, aM, bE, RR, seval]
  refine aU.pure ?_
  rfl
 obtain ⟨hco, hsz⟩ := hfi rfl
 have hg := hgt (by omega) (by have := hco.len.2; omega)
 have l2 : inp.length ≤ 60 := by have := aF hq2; omega
 have l3 : tH.length ≤ 60 := by have := aF hq3; omega
 by_cases h0 : wR c = 0
 rotate_left
 ·have z0 : ¬ ((wR c : Nat) : Int) = 0 := by omega
  rw [hav] at *
  refine bD 34 [.tmp 6] Tryd.func5 rfl rfl rfl rfl ?_
  refine aB fun K hK => ?_
  refine aA rfl ?_
  simp only [RR, seval]
  refine aK fun b3 hn3 => ?_
  simp only [RR, seval]
  refine hK _ _ ?_; clear hK K
  refine aJ ?_
  refine aB fun K hK => ?_
  refine aA rfl ?_
  simp only [RR, seval]
  refine aO (eL) ?_
  simp only [RR, seval]
  refine hK _ _ ?_; clear hK K
  refine aI false rfl (fun hc => by cases hc) (fun _ => ?_)
  refine aL ?_; try simp only [RR]
  refine aJ ?_
  refine aB fun K hK => ?_
  refine aA rfl ?_
  simp only [RR, seval]
  refine aO (hf) ?_
  simp only [hq2, hq3, RR, seval]
  refine aO (hg) ?_
  simp only [z0, RR, seval]
  refine hK _ _ ?_; clear hK K
  refine aI true rfl (fun _ => ?_) (fun hc => by cases hc)
  refine aB fun K hK => ?_
  refine aA rfl ?_
  simp only [RR, seval]
  refine hK _ _ ?_; clear hK K
  refine aP ?_; simp only [aV, aM, bE, RR, seval]
  refine aU.pure ?_
  rfl
 obtain ⟨n1, r1, hr1, c1⟩ := xB hco inp (by omega) 100 (by simp [cX])
 obtain ⟨n2, r2, hr2, c2⟩ := xB hco tH (by omega) 100 (by simp [cX])
 have hgz : ∀ f ∈ c.funs, dZ f.body = 0 := fun f hf => by
  have := sC (fun f : CF => dZ f.body) hf
  unfold wR at h0; omega
 have hno := Tx (cx := qQ c inp 100) (cx' := qQ c tH 100) rfl rfl hgz n1 c.words.toNat
 rw [hr1] at hno
 have he := Rm hno.symm hr2
 subst he
 have hs := pS r1.1 r1.1 r1.2.1 r1.2.1 r1.2.2 r1.2.2
 have hrb : By (r1.1, r1.2.1, r1.2.2) (r1.1, r1.2.1, r1.2.2) = true := by simp [By]
 rw [hrb] at hs
 rw [h0] at hg
 obtain ⟨x1, o1, t1⟩ := r1
 simp only [vA] at c1 c2 hs
 clear hr1 hr2 hno hgz hco hfi hgt
 rw [hav] at *
 refine bD 34 [.tmp 6] Tryd.func5 rfl rfl rfl rfl ?_
 refine aB fun K hK => ?_
 refine aA rfl ?_
 simp only [RR, seval]
 refine aK fun b3 hn3 => ?_
 simp only [RR, seval]
 refine hK _ _ ?_; clear hK K
 refine aJ ?_
 refine aB fun K hK => ?_
 refine aA rfl ?_
 simp only [RR, seval]
 refine aO (eL) ?_
 simp only [RR, seval]
 refine hK _ _ ?_; clear hK K
 refine aI false rfl (fun hc => by cases hc) (fun _ => ?_)
 refine aL ?_; try simp only [RR]
 refine aJ ?_
 refine aB fun K hK => ?_
 refine aA rfl ?_
 simp only [RR, seval]
 refine aO (hf) ?_
 simp only [hq2, hq3, RR, seval]
 refine aO (hg) ?_
 simp only [RR, seval]
 refine hK _ _ ?_; clear hK K
 refine aI false rfl (fun hc => by cases hc) (fun _ => ?_)
 refine aL ?_; try simp only [RR]
 refine aB fun K hK => ?_
 refine dH (fun fr M => fr 6 = .bool true ∧ True) (fun KR5 hKR5 => ?_) ?_
 ·refine eZ (fun x => x ≠ b3) dB (by kernel_rfl) fun hd => ?_
  refine cM [(0, 1), (1, 3), (3, 0), (4, 3), (2, 1), (5, 1), (6, 1), (7, 3)] hd (m := 0) rfl (by kernel_rfl) rfl rfl ?_
  simp only [bW, dJ, RR, seval]
  refine aO (c1) ?_
  simp only [RR, seval]
  refine aO (c2) ?_
  simp only [RR, seval]
  refine aO (hs) ?_
  simp only [RR, seval]
  refine dC (by kernel_rfl) ?_
  simp only [RR, seval]
  exact hKR5 _ _ ⟨rfl, trivial⟩
 rintro F1 M1 ⟨f6, _⟩
 simp only [eM]
 refine hK _ _ ?_; clear hK K
 refine aP ?_; simp only [aV, aM, bE, f6, RR, seval]
 refine aU.pure ?_
 rfl
end Go.Proofs.YtnfbbjhdflhmjaaDoor
