/- Chapter 18, the program's: a tick, a byte that comes in, one that goes out, an array's word. -/
import Derived.Test.YtlokndnkpleegaaM18h
set_option linter.unusedSimpArgs false
set_option linter.unusedVariables false
set_option maxRecDepth 10000
namespace Go.Proofs.Ytlokndnkpleegaa
open Go.Al
def endV (e : Int) : AV := .ifc 78 (.agg [.int .i64 e])
/-- how a piece of a run ends -/
def postG {α : Type} (cx : Cx) (br bv : Nat) (abs : List Nat) (vo : AV) (H : Hp) (f : α → AV) (P : α → Prop) (r : Rz α) : AEnd → Hp → Prop := fun ae H' =>
  ∃ vo', (match r with | .val v _ => ae = .ret (f v) ∧ P v | .fin e _ => ae = .pan (endV e)) ∧ RunH cx br bv abs r.st vo' H' ∧ keepsR br bv abs vo vo' H H'
theorem awpC_G {α : Type} {F : Nat → Prop} {ds : List (Option Nat)} {Q : APost} {d : Option Nat} {rest : List Oper} {fr : Fr} {H : Hp} {g : FuncId} {args : List AV} {cx : Cx} {br bv : Nat} {abs : List Nat} {vo : AV} {f : α → AV} {P : α → Prop} {r : Rz α}
    (hc : Con env g args H (postG cx br bv abs vo H f P r)) (hF : ∀ b, F b)
    (hp : ∀ e s vo' H', r = .fin e s → RunH cx br bv abs s vo' H' → keepsR br bv abs vo vo' H H' → Q (.pan (endV e)) frU H')
    (hv : ∀ v s vo' H', r = .val v s → P v → RunH cx br bv abs s vo' H' → keepsR br bv abs vo vo' H H' → awpL env F ds Q rest (putF fr d (f v)) H') : awpC env F ds Q d rest fr H g args := by
  refine awpC_run hc hF fun ae H' ⟨vo', h1, h2, h3⟩ => ?_
  cases r with
  | val v s =>
    obtain ⟨h1, h4⟩ := h1
    subst h1
    exact hv v s vo' H' rfl h4 h2 h3
  | fin e s =>
    subst h1
    exact hp e s vo' H' rfl h2 h3
section
variable {cx : Cx} {r v : Nat} {abs : List Nat} {st : RS} {vo : AV} {H : Hp}
theorem tick_con (hx : CxOk cx) (hR : RunH cx r v abs st vo H) : Con env 93 [.ptr 8 r 0 0] H (postG cx r v abs vo H (fun _ => .tup []) (fun _ => True) (tickR cx st)) := by
  have hr := hR.r
  by_cases hf : cx.fuel ≤ st.ticks
  · have zf : (cx.fuel : Int) ≤ (st.ticks : Int) := by omega
    have e : tickR cx st = .fin 5 st := by unfold tickR; rw [if_pos hf]
    rw [e]
    refine con_of 20 [] Try.func93 rfl rfl rfl rfl ?_
    refine awp_seq ?_
    refine awp_seq_k fun K hK => ?_
    refine awp_region_draw2 (fun x => x ≠ r) [(0, 3), (1, 3), (2, 3), (3, 1), (4, 3), (5, 3), (6, 3), (7, 1), (8, 3)] [] draws (by kernel_rfl) rfl rfl ?_
    simp only [emitF, markOf, EM, hr, zf, RR, seval]
    refine hK _ _ ?_; clear hK K
    refine awp_if true rfl (fun _ => ?_) (fun hc => by cases hc)
    refine awp_region rfl ?_
    simp only [hr, zf, RR, seval]
    simp only [thenQ_pan, bodyQ_pan]
    exact ⟨vo, rfl, hR, keepsR.refl _ _ _ _ _⟩
  · have zf : ¬ (cx.fuel : Int) ≤ (st.ticks : Int) := by omega
    have e : tickR cx st = .val () { st with ticks := st.ticks + 1 } := by unfold tickR; rw [if_neg hf]
    rw [e]
    have hfu := hx.fuel
    have e1 : IntKind.wrap .i64 ((st.ticks : Int) + 1) = ((st.ticks + 1 : Nat) : Int) := by rw [IntWalk.i64_in _ (by omega)]; omega
    refine con_of 20 [] Try.func93 rfl rfl rfl rfl ?_
    refine awp_seq ?_
    refine awp_seq_k fun K hK => ?_
    refine awp_region_draw2 (fun x => x ≠ r) [(0, 3), (1, 3), (2, 3), (3, 1), (4, 3), (5, 3), (6, 3), (7, 1), (8, 3)] [] draws (by kernel_rfl) rfl rfl ?_
    simp only [emitF, markOf, EM, hr, zf, e1, RR, seval]
    refine hK _ _ ?_; clear hK K
    refine awp_if false rfl (fun hc => by cases hc) (fun _ => ?_)
    refine awp_skip ?_; try simp only [RR]
    refine awp_region rfl ?_
    simp only [hr, zf, e1, RR, seval]
    try simp only [bodyQ, aresult, ares, hr, zf, e1, RR, seval]
    exact Gives.run ⟨vo, ⟨rfl, trivial⟩, hR.turn (st' := { st with ticks := st.ticks + 1 }) rfl rfl rfl hR.rd (by show st.ticks + 1 ≤ _; omega), keepsR.run _⟩
theorem get_con (hx : CxOk cx) (hR : RunH cx r v abs st vo H) : Con env 92 [.ptr 8 r 0 0] H (postG cx r v abs vo H (fun n => .int .u32 n) u32R (getR cx st)) := by
  have hr := hR.r
  have hrd := hR.rd
  have hin := hx.inp
  by_cases hf : cx.inp.length ≤ st.read
  · have zf : (cx.inp.length : Int) ≤ (st.read : Int) := by omega
    have e : getR cx st = .val 256 st := by unfold getR; rw [List.getElem?_eq_none hf]
    rw [e]
    refine con_of 32 [.tmp 2] Try.func92 rfl rfl rfl rfl ?_
    refine awp_seq_k fun K hK => ?_
    refine awp_region rfl ?_
    simp only [zf, RR, seval]
    refine hK _ _ ?_; clear hK K
    refine awp_seq ?_
    refine awp_seq_k fun K hK => ?_
    refine awp_region_draw2 (fun x => x ≠ r) [(0, 3), (1, 3), (2, 3), (3, 1), (4, 3), (5, 3), (6, 3), (7, 1), (8, 3), (9, 3)] [] draws (by kernel_rfl) rfl rfl ?_
    simp only [emitF, markOf, EM, hr, zf, RR, seval]
    refine hK _ _ ?_; clear hK K
    refine awp_if true rfl (fun _ => ?_) (fun hc => by cases hc)
    refine awp_seq_k fun K hK => ?_
    refine awp_region rfl ?_
    simp only [zf, RR, seval]
    refine hK _ _ ?_; clear hK K
    refine awp_ret ?_; simp only [bodyQ, aresult, ares, zf, RR, seval]
    exact Gives.run ⟨vo, ⟨rfl, by simp [u32R]⟩, hR, keepsR.refl _ _ _ _ _⟩
    skip
  · have zf : ¬ (cx.inp.length : Int) ≤ (st.read : Int) := by omega
    have hg := List.getElem?_eq_getElem (show st.read < cx.inp.length by omega)
    generalize cx.inp[st.read] = c at hg
    have e : getR cx st = .val c.toNat { st with read := st.read + 1 } := by unfold getR; rw [hg]
    rw [e]
    have e1 : IntKind.wrap .i64 ((st.read : Int) + 1) = ((st.read + 1 : Nat) : Int) := by rw [IntWalk.i64_in _ (by omega)]; omega
    have hc := UInt8.toNat_lt c
    have hu : u32R (c.toNat : Int) := ⟨by omega, by omega⟩
    have e2 : IntKind.wrap .u32 (c.toNat : Int) = (c.toNat : Int) := by simp [IntKind.wrap, IntKind.signed, IntKind.bits]; omega
    refine con_of 32 [.tmp 2] Try.func92 rfl rfl rfl rfl ?_
    refine awp_seq_k fun K hK => ?_
    refine awp_region rfl ?_
    simp only [zf, hg, e1, e2, RR, seval]
    refine hK _ _ ?_; clear hK K
    refine awp_seq ?_
    refine awp_seq_k fun K hK => ?_
    refine awp_region_draw2 (fun x => x ≠ r) [(0, 3), (1, 3), (2, 3), (3, 1), (4, 3), (5, 3), (6, 3), (7, 1), (8, 3), (9, 3)] [] draws (by kernel_rfl) rfl rfl ?_
    simp only [emitF, markOf, EM, hr, zf, hg, e1, e2, RR, seval]
    refine hK _ _ ?_; clear hK K
    refine awp_if false rfl (fun hc => by cases hc) (fun _ => ?_)
    refine awp_skip ?_; try simp only [RR]
    refine awp_seq_k fun K hK => ?_
    refine awp_region_draw2 (fun x => x ≠ r) [(0, 3), (1, 3), (2, 3), (3, 1), (4, 3), (5, 3), (6, 3), (7, 1), (8, 3), (9, 3)] [] draws (by kernel_rfl) rfl rfl ?_
    simp only [emitF, markOf, EM, hr, zf, hg, e1, e2, RR, seval]
    refine hK _ _ ?_; clear hK K
    refine awp_seq_k fun K hK => ?_
    refine awp_region rfl ?_
    simp only [hr, zf, hg, e1, e2, RR, seval]
    refine hK _ _ ?_; clear hK K
    refine awp_seq_k fun K hK => ?_
    refine awp_region rfl ?_
    simp only [zf, hg, e1, e2, RR, seval]
    refine hK _ _ ?_; clear hK K
    refine awp_ret ?_; simp only [bodyQ, aresult, ares, zf, hg, e1, e2, RR, seval]
    exact Gives.run ⟨vo, ⟨rfl, hu⟩, hR.turn (st' := { st with read := st.read + 1 }) rfl rfl rfl (by show st.read + 1 ≤ _; omega) hR.tk, keepsR.run _⟩
    skip
end
end Go.Proofs.Ytlokndnkpleegaa
