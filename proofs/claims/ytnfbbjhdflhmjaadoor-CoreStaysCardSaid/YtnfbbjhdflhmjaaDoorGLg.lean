/- Chapter 19: CoreStays and CoreReads, where the judge's Right is known. -/
import Derived.Test.YtnfbbjhdflhmjaaDoorGLf
set_option linter.unusedSimpArgs false
set_option linter.unusedVariables false
set_option maxRecDepth 10000
namespace Go.Proofs.YtnfbbjhdflhmjaaDoor
open Go.Al
def fairC (c : Co) (m : Nat) : Bool := fewC c m && (decide (c.words ≤ 9000) && rightC c)
def RightIs : Prop := ∀ c : Co, c.ok → PCon env 14 [c.av] (.bool (rightC c))
theorem Fair_con (hR : RightIs) (c : Co) (hc : c.ok) (m : Nat) (hm : m ≤ 1000) : PCon env 8 [c.av, .int .i64 (m : Nat)] (.bool (fairC c m)) := by
 have h1 := fewC_con c hc m hm
 have h2 := hR c hc
 have hav : c.av = .agg [.int .i64 c.words, .isl 5 (c.funs.map CF.row)] := rfl
 unfold fairC
 rw [hav] at *
 generalize fewC c m = q1 at *
 generalize rightC c = q2 at *
 generalize hw : decide (c.words ≤ 9000) = q3
 cases q1
 ·skip
  refine con_of 17 [.tmp 4] Tryd.func8 rfl rfl rfl rfl ?_
  refine awp_seq_k fun K hK => ?_
  refine awp_region rfl ?_
  simp only [RR, seval]
  refine awpN_intro fun b2 hn2 => ?_
  simp only [RR, seval]
  refine hK _ _ ?_; clear hK K
  refine awp_seq_k fun K hK => ?_
  refine awp_region rfl ?_
  simp only [RR, seval]
  refine awpC_pure' (h1) ?_
  simp only [RR, seval]
  refine hK _ _ ?_; clear hK K
  refine awp_ret ?_; simp only [bodyQ, aresult, ares, RR, seval]
  refine Gives.pure ?_
  rfl
 cases q3
 ·skip
  refine con_of 17 [.tmp 4] Tryd.func8 rfl rfl rfl rfl ?_
  refine awp_seq_k fun K hK => ?_
  refine awp_region rfl ?_
  simp only [RR, seval]
  refine awpN_intro fun b2 hn2 => ?_
  simp only [RR, seval]
  refine hK _ _ ?_; clear hK K
  refine awp_seq_k fun K hK => ?_
  refine awp_region rfl ?_
  simp only [RR, seval]
  refine awpC_pure' (h1) ?_
  simp only [hw, RR, seval]
  refine hK _ _ ?_; clear hK K
  refine awp_ret ?_; simp only [bodyQ, aresult, ares, RR, seval]
  refine Gives.pure ?_
  rfl
 ·skip
  refine con_of 17 [.tmp 4] Tryd.func8 rfl rfl rfl rfl ?_
  refine awp_seq_k fun K hK => ?_
  refine awp_region rfl ?_
  simp only [RR, seval]
  refine awpN_intro fun b2 hn2 => ?_
  simp only [RR, seval]
  refine hK _ _ ?_; clear hK K
  refine awp_seq_k fun K hK => ?_
  refine awp_region rfl ?_
  simp only [RR, seval]
  refine awpC_pure' (h1) ?_
  simp only [hw, RR, seval]
  refine awpC_pure' (h2) ?_
  simp only [RR, seval]
  refine hK _ _ ?_; clear hK K
  refine awp_ret ?_; simp only [bodyQ, aresult, ares, RR, seval]
  refine Gives.pure ?_
  rfl
theorem fair_is {c : Co} (hc : c.ok) {m : Nat} (h : fairC c m = true) : CoOk c ∧ sizC c ≤ m := by
 simp only [fairC, Bool.and_eq_true, decide_eq_true_eq] at h
 refine ⟨co_ok hc h.2.2, ?_⟩
 have h1 := h.1
 simp only [fewC, Bool.and_eq_true, decide_eq_true_eq] at h1
 have := fold_sz c.funs (m : Int) (by omega) h1.2
 unfold sizC; omega
theorem co_run {c : Co} (h : CoOk c) (inp : Str) (hin : inp.length ≤ 2000000) (fu : Int) (hfu : i64R fu) : ∃ n r, runK (cxC c inp fu) n c.words.toNat = some r ∧ PCon env 10 [c.av, .str inp, .int .i64 fu] (resV r.1 r.2.1 r.2.2) := by
 have hne : (cxC c inp fu).funs ≠ [] := fun e => by have := h.len.1; have e : c.funs = [] := e; rw [e] at this; simp at this
 have hfs : FunsOk ((c.words.toNat : Nat) : Int) (cxC c inp fu).funs := by rw [Int.toNat_of_nonneg h.words.1]; exact h.funs
 obtain ⟨n, ⟨e, o, t⟩, hr⟩ := krun_total hne hfs
 exact ⟨n, (e, o, t), hr, Run_con c h.words.1 (kx_of h) h.len.1 (by have := h.len.2; omega) inp hin fu hfu hr⟩
set_option maxHeartbeats 4000000 in
theorem CoreReads_con' (hR : RightIs) (c : Co) (hc : c.ok) (inp more : Str) : PCon env 5 [c.av, .str inp, .str more] (.bool true) := by
 have hf := Fair_con hR c hc 200 (by omega)
 have hfi := fun h => fair_is (m := 200) hc h
 have hgt := fun h1 h2 => gets_con c h1 h2
 have hav : c.av = .agg [.int .i64 c.words, .isl 5 (c.funs.map CF.row)] := rfl
 generalize hq1 : fairC c 200 = q1 at *
 cases q1
 ·rw [hav] at *
  refine con_of 34 [.tmp 6] Tryd.func5 rfl rfl rfl rfl ?_
  refine awp_seq_k fun K hK => ?_
  refine awp_region rfl ?_
  simp only [RR, seval]
  refine awpN_intro fun b3 hn3 => ?_
  simp only [RR, seval]
  refine hK _ _ ?_; clear hK K
  refine awp_seq ?_
  refine awp_seq_k fun K hK => ?_
  refine awp_region rfl ?_
  simp only [RR, seval]
  refine awpC_pure' (alive_con) ?_
  simp only [RR, seval]
  refine hK _ _ ?_; clear hK K
  refine awp_if false rfl (fun hc => by cases hc) (fun _ => ?_)
  refine awp_skip ?_; try simp only [RR]
  refine awp_seq ?_
  refine awp_seq_k fun K hK => ?_
  refine awp_region rfl ?_
  simp only [RR, seval]
  refine awpC_pure' (hf) ?_
  simp only [RR, seval]
  refine hK _ _ ?_; clear hK K
  refine awp_if true rfl (fun _ => ?_) (fun hc => by cases hc)
  refine awp_seq_k fun K hK => ?_
  refine awp_region rfl ?_
  simp only [RR, seval]
  refine hK _ _ ?_; clear hK K
  refine awp_ret ?_; simp only [bodyQ, aresult, ares, RR, seval]
  refine Gives.pure ?_
  rfl
 generalize hq2 : decide ((60 : Int) < (inp.length : Int)) = q2
 cases q2
 rotate_left
 ·rw [hav] at *
  refine con_of 34 [.tmp 6] Tryd.func5 rfl rfl rfl rfl ?_
  refine awp_seq_k fun K hK => ?_
  refine awp_region rfl ?_
  simp only [RR, seval]
  refine awpN_intro fun b3 hn3 => ?_
  simp only [RR, seval]
  refine hK _ _ ?_; clear hK K
  refine awp_seq ?_
  refine awp_seq_k fun K hK => ?_
  refine awp_region rfl ?_
  simp only [RR, seval]
  refine awpC_pure' (alive_con) ?_
  simp only [RR, seval]
  refine hK _ _ ?_; clear hK K
  refine awp_if false rfl (fun hc => by cases hc) (fun _ => ?_)
  refine awp_skip ?_; try simp only [RR]
  refine awp_seq ?_
  refine awp_seq_k fun K hK => ?_
  refine awp_region rfl ?_
  simp only [RR, seval]
  refine awpC_pure' (hf) ?_
  simp only [hq2, RR, seval]
  refine hK _ _ ?_; clear hK K
  refine awp_if true rfl (fun _ => ?_) (fun hc => by cases hc)
  refine awp_seq_k fun K hK => ?_
  refine awp_region rfl ?_
  simp only [RR, seval]
  refine hK _ _ ?_; clear hK K
  refine awp_ret ?_; simp only [bodyQ, aresult, ares, RR, seval]
  refine Gives.pure ?_
  rfl
 generalize hq3 : decide ((60 : Int) < (more.length : Int)) = q3
 cases q3
 rotate_left
 ·rw [hav] at *
  refine con_of 34 [.tmp 6] Tryd.func5 rfl rfl rfl rfl ?_
  refine awp_seq_k fun K hK => ?_
  refine awp_region rfl ?_
  simp only [RR, seval]
  refine awpN_intro fun b3 hn3 => ?_
  simp only [RR, seval]
  refine hK _ _ ?_; clear hK K
  refine awp_seq ?_
  refine awp_seq_k fun K hK => ?_
  refine awp_region rfl ?_
  simp only [RR, seval]
  refine awpC_pure' (alive_con) ?_
  simp only [RR, seval]
  refine hK _ _ ?_; clear hK K
  refine awp_if false rfl (fun hc => by cases hc) (fun _ => ?_)
  refine awp_skip ?_; try simp only [RR]
  refine awp_seq ?_
  refine awp_seq_k fun K hK => ?_
  refine awp_region rfl ?_
  simp only [RR, seval]
  refine awpC_pure' (hf) ?_
  simp only [hq2, hq3, RR, seval]
  refine hK _ _ ?_; clear hK K
  refine awp_if true rfl (fun _ => ?_) (fun hc => by cases hc)
  refine awp_seq_k fun K hK => ?_
  refine awp_region rfl ?_
  simp only [RR, seval]
  refine hK _ _ ?_; clear hK K
  refine awp_ret ?_; simp only [bodyQ, aresult, ares, RR, seval]
  refine Gives.pure ?_
  rfl
 obtain ⟨hco, hsz⟩ := hfi rfl
 have hg := hgt (by omega) (by have := hco.len.2; omega)
 have l2 : inp.length ≤ 60 := by have := of_decide_eq_false hq2; omega
 have l3 : more.length ≤ 60 := by have := of_decide_eq_false hq3; omega
 by_cases h0 : getsC c = 0
 rotate_left
 ·have z0 : ¬ ((getsC c : Nat) : Int) = 0 := by omega
  rw [hav] at *
  refine con_of 34 [.tmp 6] Tryd.func5 rfl rfl rfl rfl ?_
  refine awp_seq_k fun K hK => ?_
  refine awp_region rfl ?_
  simp only [RR, seval]
  refine awpN_intro fun b3 hn3 => ?_
  simp only [RR, seval]
  refine hK _ _ ?_; clear hK K
  refine awp_seq ?_
  refine awp_seq_k fun K hK => ?_
  refine awp_region rfl ?_
  simp only [RR, seval]
  refine awpC_pure' (alive_con) ?_
  simp only [RR, seval]
  refine hK _ _ ?_; clear hK K
  refine awp_if false rfl (fun hc => by cases hc) (fun _ => ?_)
  refine awp_skip ?_; try simp only [RR]
  refine awp_seq ?_
  refine awp_seq_k fun K hK => ?_
  refine awp_region rfl ?_
  simp only [RR, seval]
  refine awpC_pure' (hf) ?_
  simp only [hq2, hq3, RR, seval]
  refine awpC_pure' (hg) ?_
  simp only [z0, RR, seval]
  refine hK _ _ ?_; clear hK K
  refine awp_if true rfl (fun _ => ?_) (fun hc => by cases hc)
  refine awp_seq_k fun K hK => ?_
  refine awp_region rfl ?_
  simp only [RR, seval]
  refine hK _ _ ?_; clear hK K
  refine awp_ret ?_; simp only [bodyQ, aresult, ares, RR, seval]
  refine Gives.pure ?_
  rfl
 obtain ⟨n1, r1, hr1, c1⟩ := co_run hco inp (by omega) 100 (by simp [i64R])
 obtain ⟨n2, r2, hr2, c2⟩ := co_run hco more (by omega) 100 (by simp [i64R])
 have hgz : ∀ f ∈ c.funs, getsSs f.body = 0 := fun f hf => by
  have := mem_sum (fun f : CF => getsSs f.body) hf
  unfold getsC at h0; omega
 have hno := krun_no (cx := cxC c inp 100) (cx' := cxC c more 100) rfl rfl hgz n1 c.words.toNat
 rw [hr1] at hno
 have he := krun_one hno.symm hr2
 subst he
 have hs := rSame_con r1.1 r1.1 r1.2.1 r1.2.1 r1.2.2 r1.2.2
 have hrb : resB (r1.1, r1.2.1, r1.2.2) (r1.1, r1.2.1, r1.2.2) = true := by simp [resB]
 rw [hrb] at hs
 rw [h0] at hg
 obtain ⟨x1, o1, t1⟩ := r1
 simp only [resV] at c1 c2 hs
 clear hr1 hr2 hno hgz hco hfi hgt
 rw [hav] at *
 refine con_of 34 [.tmp 6] Tryd.func5 rfl rfl rfl rfl ?_
 refine awp_seq_k fun K hK => ?_
 refine awp_region rfl ?_
 simp only [RR, seval]
 refine awpN_intro fun b3 hn3 => ?_
 simp only [RR, seval]
 refine hK _ _ ?_; clear hK K
 refine awp_seq ?_
 refine awp_seq_k fun K hK => ?_
 refine awp_region rfl ?_
 simp only [RR, seval]
 refine awpC_pure' (alive_con) ?_
 simp only [RR, seval]
 refine hK _ _ ?_; clear hK K
 refine awp_if false rfl (fun hc => by cases hc) (fun _ => ?_)
 refine awp_skip ?_; try simp only [RR]
 refine awp_seq ?_
 refine awp_seq_k fun K hK => ?_
 refine awp_region rfl ?_
 simp only [RR, seval]
 refine awpC_pure' (hf) ?_
 simp only [hq2, hq3, RR, seval]
 refine awpC_pure' (hg) ?_
 simp only [RR, seval]
 refine hK _ _ ?_; clear hK K
 refine awp_if false rfl (fun hc => by cases hc) (fun _ => ?_)
 refine awp_skip ?_; try simp only [RR]
 refine awp_seq_k fun K hK => ?_
 refine awp_cutP (fun fr M => fr 6 = .bool true ∧ True) (fun KR5 hKR5 => ?_) ?_
 ·refine awp_region_any (fun x => x ≠ b3) draws (by kernel_rfl) fun hd => ?_
  refine any_plan [(0, 1), (1, 3), (3, 0), (4, 3), (2, 1), (5, 1), (6, 1), (7, 3)] hd (m := 0) rfl (by kernel_rfl) rfl rfl ?_
  simp only [emitF, markOf, RR, seval]
  refine awpC_pure' (c1) ?_
  simp only [RR, seval]
  refine awpC_pure' (c2) ?_
  simp only [RR, seval]
  refine awpC_pure' (hs) ?_
  simp only [RR, seval]
  refine any_done (by kernel_rfl) ?_
  simp only [RR, seval]
  exact hKR5 _ _ ⟨rfl, trivial⟩
 rintro F1 M1 ⟨f6, _⟩
 simp only [thenQ_normal]
 refine hK _ _ ?_; clear hK K
 refine awp_ret ?_; simp only [bodyQ, aresult, ares, f6, RR, seval]
 refine Gives.pure ?_
 rfl
end Go.Proofs.YtnfbbjhdflhmjaaDoor
