/- Chapter 15: ParseBack: the law's contract. -/
import Derived.Test.YtlpeikljipknoaaDoorGAw
import Derived.Test.YtlpeikljipknoaaDoorGSge
import Derived.Test.YtlpeikljipknoaaDoorBms
import Derived.Test.YtlpeikljipknoaaDoorJpr
set_option linter.unusedSimpArgs false
set_option linter.unusedVariables false
set_option maxRecDepth 10000
namespace Go.Proofs.YtlpeikljipknoaaDoor
open Go.Al
theorem Sml.print {p : Pg} {m : Nat} (hm : m ≤ 1000) (h : Sml p m) : PCon env 19 [p.av] (.str (prP p)) := by
  have hr := h.right
  have hl : (prP p).length ≤ 140737488355328 := prP_len h.ok hr 1000 (by omega) (by have := h.v; omega) (by have := h.a; omega) fun f hf => by have := h.fs f hf; omega
  have hra : ∀ a ∈ p.arrs, 0 ≤ a.size ∧ a.size < 4294967296 := fun a ha => by
    have hr2 := hr
    simp only [rightP, Bool.and_eq_true, decide_eq_true_eq, List.all_eq_true] at hr2
    have := hr2.1.2 a ha
    simp only [rightA, Bool.and_eq_true, decide_eq_true_eq] at this
    omega
  refine jPrint_con p (by have := h.v; omega) (by have := h.a; omega) (by have := h.f; omega) hra (fun f hfm => ?_) hl
  have hq := h.fs f hfm
  have hb : rightS f.body 1 = true := by
    have hr2 := hr
    simp only [rightP, Bool.and_eq_true, decide_eq_true_eq, List.all_eq_true] at hr2
    have := hr2.2 f hfm
    simp only [rightF, Bool.and_eq_true] at this
    exact this.2
  exact ⟨by omega, by omega, jstmts_con (szS f.body) (by omega) f.body 1 (Nat.le_refl _) (h.ok.funs f hfm).body (by omega) hb⟩
theorem ParseBack_con (p : Pg) (hp : p.ok) (hl : Lim p) : PCon env 5 [p.av] (.bool true) := by
  have c1 := small5_con p hp hl 300 (by omega)
  have hs := Sml.of (m := 300) hp
  have e3 := Same_con p p hp hp
  rw [eqB_self] at e3
  have hav : p.av = .agg p.row := rfl
  cases hq : smallQ p 300 with
  | false =>
    rw [hq] at c1
    simp only [Pg.av, Pg.row] at c1 ⊢
    refine con_of 37 [.tmp 2] Tryd.func5 rfl rfl rfl rfl ?_
    refine awp_seq_k fun K hK => ?_
    refine awp_region rfl ?_
    simp only [RR, seval]
    refine awpN_intro fun b1 hn1 => ?_
    simp only [RR, seval]
    refine hK _ _ ?_; clear hK K
    refine awp_seq ?_
    refine awp_seq_k fun K hK => ?_
    refine awp_region rfl ?_
    simp only [RR, seval]
    refine awpC_pure' (c1) ?_
    simp only [RR, seval]
    refine hK _ _ ?_; clear hK K
    refine awp_if true rfl (fun _ => ?_) (fun hc => by cases hc)
    refine awp_seq_k fun K hK => ?_
    refine awp_region rfl ?_
    simp only [RR, seval]
    refine awpC_pure' (awake_con) ?_
    simp only [RR, seval]
    refine hK _ _ ?_; clear hK K
    refine awp_ret ?_; simp only [bodyQ, aresult, ares, RR, seval]
    refine Gives.pure ?_
    rfl
  | true =>
    have hsm := hs hq
    have hpr := hsm.print (by omega)
    rw [hq] at c1
    have hback := src_back hp hsm.right
    by_cases hlen : 15000 < (prP p).length
    · have hd : decide ((15000 : Int) < ((prP p).length : Int)) = true := decide_eq_true (by omega)
      generalize prP p = s at *
      simp only [Pg.av, Pg.row] at c1 hpr ⊢
      refine con_of 37 [.tmp 2] Tryd.func5 rfl rfl rfl rfl ?_
      refine awp_seq_k fun K hK => ?_
      refine awp_region rfl ?_
      simp only [hd, RR, seval]
      refine awpN_intro fun b1 hn1 => ?_
      simp only [hd, RR, seval]
      refine hK _ _ ?_; clear hK K
      refine awp_seq ?_
      refine awp_seq_k fun K hK => ?_
      refine awp_region rfl ?_
      simp only [hd, RR, seval]
      refine awpC_pure' (c1) ?_
      simp only [hd, RR, seval]
      refine hK _ _ ?_; clear hK K
      refine awp_if false rfl (fun hc => by cases hc) (fun _ => ?_)
      refine awp_skip ?_; try simp only [RR]
      refine awp_seq_k fun K hK => ?_
      refine awp_region rfl ?_
      simp only [hd, RR, seval]
      refine awpC_pure' (hpr) ?_
      simp only [hd, RR, seval]
      refine hK _ _ ?_; clear hK K
      refine awp_seq ?_
      refine awp_seq_k fun K hK => ?_
      refine awp_region rfl ?_
      simp only [hd, RR, seval]
      refine hK _ _ ?_; clear hK K
      refine awp_if true rfl (fun _ => ?_) (fun hc => by cases hc)
      refine awp_seq_k fun K hK => ?_
      refine awp_region rfl ?_
      simp only [hd, RR, seval]
      refine awpC_pure' (awake_con) ?_
      simp only [hd, RR, seval]
      refine hK _ _ ?_; clear hK K
      refine awp_ret ?_; simp only [bodyQ, aresult, ares, hd, RR, seval]
      refine Gives.pure ?_
      rfl
    · have hd : decide ((15000 : Int) < ((prP p).length : Int)) = false := decide_eq_false (by omega)
      have hb := hback (by omega)
      have c2 := pProg_con (prP p) (by omega)
      rw [hb] at c2
      simp only [resP] at c2
      generalize prP p = s at *
      simp only [Pg.av, Pg.row] at c1 c2 e3 hpr ⊢
      refine con_of 37 [.tmp 2] Tryd.func5 rfl rfl rfl rfl ?_
      refine awp_seq_k fun K hK => ?_
      refine awp_region rfl ?_
      simp only [hd, RR, seval]
      refine awpN_intro fun b1 hn1 => ?_
      simp only [hd, RR, seval]
      refine hK _ _ ?_; clear hK K
      refine awp_seq ?_
      refine awp_seq_k fun K hK => ?_
      refine awp_region rfl ?_
      simp only [hd, RR, seval]
      refine awpC_pure' (c1) ?_
      simp only [hd, RR, seval]
      refine hK _ _ ?_; clear hK K
      refine awp_if false rfl (fun hc => by cases hc) (fun _ => ?_)
      refine awp_skip ?_; try simp only [RR]
      refine awp_seq_k fun K hK => ?_
      refine awp_region rfl ?_
      simp only [hd, RR, seval]
      refine awpC_pure' (hpr) ?_
      simp only [hd, RR, seval]
      refine hK _ _ ?_; clear hK K
      refine awp_seq ?_
      refine awp_seq_k fun K hK => ?_
      refine awp_region rfl ?_
      simp only [hd, RR, seval]
      refine hK _ _ ?_; clear hK K
      refine awp_if false rfl (fun hc => by cases hc) (fun _ => ?_)
      refine awp_skip ?_; try simp only [RR]
      refine awp_seq_k fun K hK => ?_
      refine awp_region rfl ?_
      simp only [hd, RR, seval]
      refine awpC_pure' (c2) ?_
      simp only [hd, RR, seval]
      refine awpN_intro fun b4 hn4 => ?_
      have nb4_b1 : b4 ≠ b1 := fun e => by rw [e] at hn4; simp only [RR, seval, reduceCtorEq] at hn4
      have nb1_b4 : b1 ≠ b4 := fun e => nb4_b1 e.symm
      simp only [nb4_b1, nb1_b4, hd, RR, seval]
      refine hK _ _ ?_; clear hK K
      refine awp_seq_k fun K hK => ?_
      refine awp_region rfl ?_
      simp only [nb4_b1, nb1_b4, hd, RR, seval]
      refine awpC_pure' (awake_con) ?_
      simp only [nb4_b1, nb1_b4, hd, RR, seval]
      refine awpC_pure' (e3) ?_
      simp only [nb4_b1, nb1_b4, hd, RR, seval]
      refine hK _ _ ?_; clear hK K
      refine awp_ret ?_; simp only [bodyQ, aresult, ares, hd, RR, seval]
      refine Gives.pure ?_
      rfl
end Go.Proofs.YtlpeikljipknoaaDoor
