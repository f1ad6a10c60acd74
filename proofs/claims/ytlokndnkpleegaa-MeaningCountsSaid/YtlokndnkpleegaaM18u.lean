/- Chapter 18: the law's guard. -/
import Derived.Test.YtlokndnkpleegaaM18t
set_option linter.unusedSimpArgs false
set_option linter.unusedVariables false
set_option maxRecDepth 10000
namespace Go.Al
theorem numX_ok {n : Int} (h : u32R n) : (numX n).ok := .mk _ _ _ _ _ (by simp [i64R]) (by simp [i64R]) h (by simp [fitL]) (by simp [fitL]) (fun e h => by cases h)
theorem nameX_ok {s : Str} (h : fitL s) : (nameX s).ok := .mk _ _ _ _ _ (by simp [i64R]) (by simp [i64R]) (by simp [u32R]) h (by simp [fitL]) (fun e h => by cases h)
theorem opX_ok {k : Int} (hk : i64R k) {a b : Ex} (ha : a.ok) (hb : b.ok) : (opX k a b).ok := .mk _ _ _ _ _ (by simp [i64R]) hk (by simp [u32R]) (by simp [fitL]) (by simp [fitL]) (fun e h => by
  rcases List.mem_cons.1 h with rfl | h
  · exact ha
  · rw [List.mem_singleton] at h; rw [h]; exact hb)
theorem putS_ok {e : Ex} (he : e.ok) : (putS e).ok := .mk _ _ _ _ _ (by simp [i64R]) (by simp [fitL]) ⟨by simp [fitL], fun x h => by rw [List.mem_singleton] at h; rw [h]; exact he⟩ (by simp [fitL]) (fun e h => by cases h) (by simp [fitL]) (fun e h => by cases h)
theorem setS_ok {s : Str} (hs : fitL s) {e : Ex} (he : e.ok) : (setS s e).ok := .mk _ _ _ _ _ (by simp [i64R]) hs ⟨by simp [fitL], fun x h => by rw [List.mem_singleton] at h; rw [h]; exact he⟩ (by simp [fitL]) (fun e h => by cases h) (by simp [fitL]) (fun e h => by cases h)
theorem whileS_ok {e : Ex} (he : e.ok) {l : List Sm} (hl : okS l) : (whileS e l).ok := .mk _ _ _ _ _ (by simp [i64R]) (by simp [fitL]) ⟨by simp [fitL], fun x h => by rw [List.mem_singleton] at h; rw [h]; exact he⟩ hl.fit hl.all (by simp [fitL]) (fun e h => by cases h)
theorem okS_nil : okS [] := ⟨by simp [fitL], fun e h => by cases h⟩
theorem okS_1 {a : Sm} (h : a.ok) : okS [a] := ⟨by simp [fitL], fun x hx => by rw [List.mem_singleton] at hx; rw [hx]; exact h⟩
theorem okS_2 {a b : Sm} (h : a.ok) (h' : b.ok) : okS [a, b] := ⟨by simp [fitL], fun x hx => by
  rcases List.mem_cons.1 hx with rfl | hx
  · exact h
  · rw [List.mem_singleton] at hx; rw [hx]; exact h'⟩
theorem val1 : valX 5 (opX 6 (numX 6) (numX 7)) = some (42, 0) := by decide +kernel
theorem val2 : valX 5 (opX 7 (numX 6) (numX 0)) = some (0, 14) := by decide +kernel
theorem pl1 (k a b : Int) : plX (opX k (numX a) (numX b)) = true := rfl
theorem pl3 (s : Str) : plX (nameX s) = false := rfl
end Go.Al
namespace Go.Proofs.Ytlokndnkpleegaa
open Go.Al
theorem progP_ok {v : Str} (hv : fitL v) (hne : v ≠ mainN) {l : List Sm} (hl : okS l) (hs : szS l ≤ 1000000) : RunOk (progP v l) := by
  refine ⟨⟨⟨by simp [progP, fitL], fun s hs => ?_⟩, by simp [progP, fitL], (fun a h => by cases h), by simp [progP, fitL], fun f hf => ?_⟩, ?_, fun f hf => ?_, by simp [progP], by simp [progP], by simp [progP], by simp [progP], fun f hf => ?_, fun a h => by cases h⟩
  · simp only [progP, List.mem_singleton] at hs; subst hs; exact hv
  · simp only [progP, List.mem_singleton] at hf
    subst hf
    exact ⟨by simp [mainN, fitL], ⟨by simp [fitL], (fun s h => by cases h)⟩, ⟨by simp [fitL], fun s h => by cases h⟩, hl⟩
  · simp [globL, progP, hne]
  · simp only [progP, List.mem_singleton] at hf
    subst hf
    simp [namesL]
  · simp only [progP, List.mem_singleton] at hf
    subst hf
    exact ⟨by simp, by simp, hs⟩
def pW : Pg := progP [97] [putS (numX 65), whileS (opX 15 (numX 1) (numX 1)) []]
theorem pW_run : runR (cxP pW [] 5) 30 pW.vars.length (pW.arrs.map fun a => a.size.toNat) = some (5, [65], 5) := by decide +kernel
theorem awake_con : PCon env 13 [] (.bool true) := by
  have u (n : Int) (h : u32R n) := numX_ok h
  have o1 := u 1 (by simp [u32R])
  have hpW : RunOk pW := progP_ok (by simp [fitL]) (by decide) (okS_2 (putS_ok (u 65 (by simp [u32R]))) (whileS_ok (opX_ok (by simp [i64R]) o1 o1) okS_nil)) (by simp [szS, Sm.sz, szE, Ex.sz, putS, whileS, opX, numX])
  have hr := Run_con pW hpW [] (by simp) 5 (by simp [i64R]) pW_run
  have v1 := Value_con 5 _ _ (fun _ => val1) (opX_ok (by simp [i64R]) (u 6 (by simp [u32R])) (u 7 (by simp [u32R])))
  have v2 := Value_con 5 _ _ (fun _ => val2) (opX_ok (by simp [i64R]) (u 6 (by simp [u32R])) (u 0 (by simp [u32R])))
  have v3 := Value_con 5 (nameX [97]) (0, 0) (fun h => by rw [pl3] at h; cases h) (nameX_ok (by simp [fitL]))
  rw [pl1] at v1 v2
  rw [pl3] at v3
  have a1 := lnum_con 65
  have a2 := lput_con (numX 65)
  have a3 := lnum_con 1
  have a4 := lop_con 15 (numX 1) (numX 1)
  have a5 := lwhile_con (opX 15 (numX 1) (numX 1)) []
  have a6 := lprog_con [97] [putS (numX 65), whileS (opX 15 (numX 1) (numX 1)) []]
  have w1 := lnum_con 6
  have w2 := lnum_con 7
  have w3 := lop_con 6 (numX 6) (numX 7)
  have w4 := lnum_con 0
  have w5 := lop_con 7 (numX 6) (numX 0)
  have w6 := lname_con [97]
  clear hpW u o1
  simp only [pW, progP, mainN, putS, whileS, opX, numX, nameX, Pg.av, Pg.row, Fu.row, Ex.row_eq, Sm.row_eq, List.map_cons, List.map_nil, strRow, Ex.kind, Ex.op, Ex.num, Ex.name, Ex.kids, Sm.kind, Sm.name, Sm.es, Sm.thn, Sm.els, resV, if_true, Bool.false_eq_true, if_false] at *
  refine con_of 57 [.tmp 0] Try.func13 rfl rfl rfl rfl ?_
  refine awp_seq_k fun K hK => ?_
  refine awp_region rfl ?_
  simp only [RR, seval]
  refine hK _ _ ?_; clear hK K
  refine awp_seq_k fun K hK => ?_
  refine awp_region rfl ?_
  simp only [RR, seval]
  refine awpC_pure' (a1) ?_
  simp only [RR, seval]
  refine awpC_pure' (a2) ?_
  simp only [RR, seval]
  refine awpC_pure' (a3) ?_
  simp only [RR, seval]
  refine awpC_pure' (a3) ?_
  simp only [RR, seval]
  refine awpC_pure' (a4) ?_
  simp only [RR, seval]
  refine awpC_pure a5 (by refine SubR.list ?_; repeat' (first | exact SubR.nil | exact SubRs.nil | exact Sub.refl _ | exact Sub.nsl _ | refine SubR.cons ?_ ?_ | refine SubRs.cons ?_ ?_ | refine Sub.isl ?_ | refine Sub.aggR ?_)) ?_
  simp only [RR, seval]
  refine awpB_sealed ?_
  simp only [RR, seval]
  refine awpC_pure' (a6) ?_
  simp only [RR, seval]
  refine awpN_intro fun b1 hn1 => ?_
  simp only [RR, seval]
  refine hK _ _ ?_; clear hK K
  refine awp_seq_k fun K hK => ?_
  refine awp_region rfl ?_
  simp only [RR, seval]
  refine awpC_pure' (hr) ?_
  simp only [RR, seval]
  refine awpN_intro fun b2 hn2 => ?_
  have nb2_b1 : b2 ≠ b1 := fun e => by rw [e] at hn2; simp only [RR, seval, reduceCtorEq] at hn2
  have nb1_b2 : b1 ≠ b2 := fun e => nb2_b1 e.symm
  simp only [nb2_b1, nb1_b2, RR, seval]
  refine hK _ _ ?_; clear hK K
  refine awp_seq_k fun K hK => ?_
  refine awp_region rfl ?_
  simp only [nb2_b1, nb1_b2, RR, seval]
  refine awpC_pure' (w1) ?_
  simp only [nb2_b1, nb1_b2, RR, seval]
  refine awpC_pure' (w2) ?_
  simp only [nb2_b1, nb1_b2, RR, seval]
  refine awpC_pure' (w3) ?_
  simp only [nb2_b1, nb1_b2, RR, seval]
  refine awpC_pure' (v1) ?_
  simp only [nb2_b1, nb1_b2, RR, seval]
  refine hK _ _ ?_; clear hK K
  refine awp_seq_k fun K hK => ?_
  refine awp_region rfl ?_
  simp only [nb2_b1, nb1_b2, RR, seval]
  refine awpC_pure' (w1) ?_
  simp only [nb2_b1, nb1_b2, RR, seval]
  refine awpC_pure' (w4) ?_
  simp only [nb2_b1, nb1_b2, RR, seval]
  refine awpC_pure' (w5) ?_
  simp only [nb2_b1, nb1_b2, RR, seval]
  refine awpC_pure' (v2) ?_
  simp only [nb2_b1, nb1_b2, RR, seval]
  refine hK _ _ ?_; clear hK K
  refine awp_seq_k fun K hK => ?_
  refine awp_region rfl ?_
  simp only [nb2_b1, nb1_b2, RR, seval]
  refine awpC_pure' (w6) ?_
  simp only [nb2_b1, nb1_b2, RR, seval]
  refine awpC_pure' (v3) ?_
  simp only [nb2_b1, nb1_b2, RR, seval]
  refine hK _ _ ?_; clear hK K
  refine awp_seq_k fun K hK => ?_
  refine awp_region rfl ?_
  simp only [nb2_b1, nb1_b2, RR, seval]
  repeat' ((first | refine awpG_splitN (fun h => ?_) (fun h => ?_) | refine awpG_split (fun h => ?_) (fun h => ?_)) <;> simp only [h, nb2_b1, nb1_b2, RR, seval])
  all_goals
    refine hK _ _ ?_; clear hK K
    refine awp_ret ?_; simp only [bodyQ, aresult, ares, nb2_b1, nb1_b2, RR, seval]
    refine Gives.pure ?_
    rfl
end Go.Proofs.Ytlokndnkpleegaa
