/- Chapter 19, the program's: a tick, a byte that comes in, one that goes out, an array's word. -/
import Derived.Test.YtnfbbjhdflhmjaaDoorGKa
import Derived.Test.YtnfbbjhdflhmjaaDoorMb
set_option linter.unusedSimpArgs false
set_option linter.unusedVariables false
set_option maxRecDepth 10000
namespace Go.Proofs.YtnfbbjhdflhmjaaDoor
open Go.Al
def endV (e : Int) : AV := .ifc 56 (.agg [.int .i64 e])
def postG {α : Type} (cx : Kx) (W br bw : Nat) (vo : AV) (H : Hp) (f : α → AV) (P : α → Prop) (r : Rz α) : AEnd → Hp → Prop := fun ae H' =>
 ∃ vo', (match r with | .val v _ => ae = .ret (f v) ∧ P v | .fin e _ => ae = .pan (endV e)) ∧ RunK cx W br bw r.st vo' H' ∧ keepsK br bw vo vo' H H'
theorem awpC_G {α : Type} {F : Nat → Prop} {ds : List (Option Nat)} {Q : APost} {d : Option Nat} {rest : List Oper} {fr : Fr} {H : Hp} {g : FuncId} {args : List AV} {cx : Kx} {W br bw : Nat} {vo : AV} {f : α → AV} {P : α → Prop} {r : Rz α}
  (hc : Con env g args H (postG cx W br bw vo H f P r)) (hF : ∀ b, F b)
  (hp : ∀ e s vo' H', r = .fin e s → RunK cx W br bw s vo' H' → keepsK br bw vo vo' H H' → Q (.pan (endV e)) frU H')
  (hv : ∀ v s vo' H', r = .val v s → P v → RunK cx W br bw s vo' H' → keepsK br bw vo vo' H H' → awpL env F ds Q rest (putF fr d (f v)) H') : awpC env F ds Q d rest fr H g args := by
 refine awpC_run hc hF fun ae H' ⟨vo', h1, h2, h3⟩ => ?_
 cases r with
 | val v s =>
   obtain ⟨h1, h4⟩ := h1
   subst h1
   exact hv v s vo' H' rfl h4 h2 h3
 | fin e s =>
   subst h1
   exact hp e s vo' H' rfl h2 h3
section
variable {cx : Kx} {W r w : Nat} {st : RS} {vo : AV} {H : Hp}
theorem tick_con (hx : KxOk cx W) (hR : RunK cx W r w st vo H) : Con env 80 [.ptr 7 r 0 0] H (postG cx W r w vo H (fun _ => .tup []) (fun _ => True) (tickR cx.cx st)) := by
 have hr := hR.r
 by_cases hf : cx.fuel ≤ st.ticks
 ·have zf : (cx.fuel : Int) ≤ (st.ticks : Int) := by omega
  have e : tickR cx.cx st = .fin 5 st := by unfold tickR; rw [if_pos (show cx.cx.fuel ≤ st.ticks from hf)]
  rw [e]
  refine con_of 20 [] Tryd.func80 rfl rfl rfl rfl ?_
  refine awp_seq ?_
  refine awp_seq_k fun K hK => ?_
  refine awp_region_draw2 (fun x => x ≠ r) [(0, 3), (1, 3), (2, 3), (3, 1), (4, 3), (5, 3), (6, 3), (7, 1), (8, 3)] [] draws (by kernel_rfl) rfl rfl ?_
  simp only [emitF, hr, zf, RR, seval]
  refine hK _ _ ?_; clear hK K
  refine awp_if true rfl (fun _ => ?_) (fun hc => by cases hc)
  refine awp_region rfl ?_
  simp only [RR, seval]
  simp only [thenQ_pan, bodyQ_pan]
  exact ⟨vo, rfl, hR, keepsK.refl _ _ _ _⟩
 ·have zf : ¬ (cx.fuel : Int) ≤ (st.ticks : Int) := by omega
  have e : tickR cx.cx st = .val () { st with ticks := st.ticks + 1 } := by unfold tickR; rw [if_neg (show ¬ cx.cx.fuel ≤ st.ticks from hf)]
  rw [e]
  have hfu := hx.fuel
  have e1 : IntKind.wrap .i64 ((st.ticks : Int) + 1) = ((st.ticks + 1 : Nat) : Int) := by rw [IntWalk.i64_in _ (by omega)]; omega
  refine con_of 20 [] Tryd.func80 rfl rfl rfl rfl ?_
  refine awp_seq ?_
  refine awp_seq_k fun K hK => ?_
  refine awp_region_draw2 (fun x => x ≠ r) [(0, 3), (1, 3), (2, 3), (3, 1), (4, 3), (5, 3), (6, 3), (7, 1), (8, 3)] [] draws (by kernel_rfl) rfl rfl ?_
  simp only [emitF, hr, zf, RR, seval]
  refine hK _ _ ?_; clear hK K
  refine awp_if false rfl (fun hc => by cases hc) (fun _ => ?_)
  refine awp_skip ?_; try simp only [RR]
  refine awp_region rfl ?_
  simp only [hr, e1, RR, seval]
  try simp only [bodyQ, aresult, ares, seval]
  exact Gives.run ⟨vo, ⟨rfl, trivial⟩, hR.turn (st' := { st with ticks := st.ticks + 1 }) rfl rfl hR.rd (by show st.ticks + 1 ≤ _; omega), keepsK.run _⟩
theorem get_con (hx : KxOk cx W) (hR : RunK cx W r w st vo H) : Con env 77 [.ptr 7 r 0 0] H (postG cx W r w vo H (fun n => .int .u32 n) u32R (getR cx.cx st)) := by
 have hr := hR.r
 have hrd := hR.rd
 have hin := hx.inp
 by_cases hf : cx.inp.length ≤ st.read
 ·have zf : (cx.inp.length : Int) ≤ (st.read : Int) := by omega
  have e : getR cx.cx st = .val 256 st := by unfold getR; rw [List.getElem?_eq_none (show cx.cx.inp.length ≤ st.read from hf)]
  rw [e]
  refine con_of 32 [.tmp 2] Tryd.func77 rfl rfl rfl rfl ?_
  refine awp_seq_k fun K hK => ?_
  refine awp_region rfl ?_
  simp only [RR, seval]
  refine hK _ _ ?_; clear hK K
  refine awp_seq ?_
  refine awp_seq_k fun K hK => ?_
  refine awp_region_draw2 (fun x => x ≠ r) [(0, 3), (1, 3), (2, 3), (3, 1), (4, 3), (5, 3), (6, 3), (7, 1), (8, 3), (9, 3)] [] draws (by kernel_rfl) rfl rfl ?_
  simp only [emitF, hr, zf, RR, seval]
  refine hK _ _ ?_; clear hK K
  refine awp_if true rfl (fun _ => ?_) (fun hc => by cases hc)
  refine awp_seq_k fun K hK => ?_
  refine awp_region rfl ?_
  simp only [RR, seval]
  refine hK _ _ ?_; clear hK K
  refine awp_ret ?_; simp only [bodyQ, aresult, ares, RR, seval]
  exact Gives.run ⟨vo, ⟨rfl, by simp [u32R]⟩, hR, keepsK.refl _ _ _ _⟩
  skip
 ·have zf : ¬ (cx.inp.length : Int) ≤ (st.read : Int) := by omega
  have hg := List.getElem?_eq_getElem (show st.read < cx.inp.length by omega)
  generalize cx.inp[st.read] = c at hg
  have e : getR cx.cx st = .val c.toNat { st with read := st.read + 1 } := by unfold getR; rw [show cx.cx.inp[st.read]? = some c from hg]
  rw [e]
  have e1 : IntKind.wrap .i64 ((st.read : Int) + 1) = ((st.read + 1 : Nat) : Int) := by rw [IntWalk.i64_in _ (by omega)]; omega
  have hc := UInt8.toNat_lt c
  have hu : u32R (c.toNat : Int) := ⟨by omega, by omega⟩
  have e2 : IntKind.wrap .u32 (c.toNat : Int) = (c.toNat : Int) := by simp [IntKind.wrap, IntKind.signed, IntKind.bits]; omega
  refine con_of 32 [.tmp 2] Tryd.func77 rfl rfl rfl rfl ?_
  refine awp_seq_k fun K hK => ?_
  refine awp_region rfl ?_
  simp only [RR, seval]
  refine hK _ _ ?_; clear hK K
  refine awp_seq ?_
  refine awp_seq_k fun K hK => ?_
  refine awp_region_draw2 (fun x => x ≠ r) [(0, 3), (1, 3), (2, 3), (3, 1), (4, 3), (5, 3), (6, 3), (7, 1), (8, 3), (9, 3)] [] draws (by kernel_rfl) rfl rfl ?_
  simp only [emitF, hr, zf, RR, seval]
  refine hK _ _ ?_; clear hK K
  refine awp_if false rfl (fun hc => by cases hc) (fun _ => ?_)
  refine awp_skip ?_; try simp only [RR]
  refine awp_seq_k fun K hK => ?_
  refine awp_region_draw2 (fun x => x ≠ r) [(0, 3), (1, 3), (2, 3), (3, 1), (4, 3), (5, 3), (6, 3), (7, 1), (8, 3), (9, 3)] [] draws (by kernel_rfl) rfl rfl ?_
  simp only [emitF, hr, hg, RR, seval]
  refine hK _ _ ?_; clear hK K
  refine awp_seq_k fun K hK => ?_
  refine awp_region rfl ?_
  simp only [hr, e1, RR, seval]
  refine hK _ _ ?_; clear hK K
  refine awp_seq_k fun K hK => ?_
  refine awp_region rfl ?_
  simp only [e2, RR, seval]
  refine hK _ _ ?_; clear hK K
  refine awp_ret ?_; simp only [bodyQ, aresult, ares, RR, seval]
  exact Gives.run ⟨vo, ⟨rfl, hu⟩, hR.turn (st' := { st with read := st.read + 1 }) rfl rfl (by show st.read + 1 ≤ _; omega) hR.tk, keepsK.run _⟩
  skip
theorem put_con (hR : RunK cx W r w st vo H) (n : Int) : Con env 56 [.ptr 7 r 0 0, .int .u32 n] H (postG cx W r w vo H (fun _ => .tup []) (fun _ => True) (putR n st)) := by
 have hr := hR.r
 have hown := hR.o
 have hub := hR.ub
 have hlen : ∃ m, st.out.length = m ∧ (vo = .nsl ∧ m = 0 ∨ ∃ b, vo = .osl 1 b m) := ⟨_, rfl, by
  rcases hown with ⟨h1, h2⟩ | ⟨b, h1, h2⟩
  ·exact .inl ⟨h1, by simpa using h2⟩
  ·exact .inr ⟨b, by simpa using h1⟩⟩
 obtain ⟨m, hm, hvo⟩ := hlen
 by_cases hf : 65536 ≤ st.out.length
 ·have zf : (65536 : Int) ≤ (m : Int) := by omega
  have e : putR n st = .fin 4 st := by unfold putR; rw [if_pos hf]
  rw [e]
  rcases hvo with ⟨rfl, rfl⟩ | ⟨b, rfl⟩
  ·omega
  ·skip
   refine con_of 23 [] Tryd.func56 rfl rfl rfl rfl ?_
   refine awp_seq ?_
   refine awp_seq_k fun K hK => ?_
   refine awp_region rfl ?_
   simp only [hr, zf, RR, seval]
   refine hK _ _ ?_; clear hK K
   refine awp_if true rfl (fun _ => ?_) (fun hc => by cases hc)
   refine awp_region rfl ?_
   simp only [RR, seval]
   simp only [thenQ_pan, bodyQ_pan]
   exact ⟨_, rfl, hR, keepsK.refl _ _ _ _⟩
 ·have zf : ¬ (65536 : Int) ≤ (m : Int) := by omega
  have e : putR n st = .val () { st with out := st.out ++ [UInt8.ofNat (IntKind.wrap .u8 n).toNat] } := by unfold putR; rw [if_neg hf]
  rw [e]
  have hc : ((UInt8.ofNat (IntKind.wrap .u8 n).toNat).toNat : Int) = IntKind.wrap .u8 n := by
   have h1 : IntKind.wrap .u8 n = n % 256 := by simp [IntKind.wrap, IntKind.signed, IntKind.bits]
   rw [h1]
   have := Int.emod_nonneg n (show (256 : Int) ≠ 0 by decide)
   have := Int.emod_lt_of_pos n (show (0 : Int) < 256 by decide)
   simp only [UInt8.toNat_ofNat']
   omega
  have hrow : [AV.int .u8 (IntKind.wrap .u8 n)] = rowB (UInt8.ofNat (IntKind.wrap .u8 n).toNat) := by unfold rowB; rw [hc]
  generalize UInt8.ofNat (IntKind.wrap .u8 n).toNat = c at hrow
  clear hc e
  rcases hvo with ⟨rfl, rfl⟩ | ⟨b, rfl⟩
  all_goals
   have zg : ¬ (65536 : Int) ≤ 0 := by decide
   refine con_of 23 [] Tryd.func56 rfl rfl rfl rfl ?_
   refine awp_seq ?_
   refine awp_seq_k fun K hK => ?_
   refine awp_region rfl ?_
   simp only [hr, zf, zg, RR, seval]
   refine hK _ _ ?_; clear hK K
   refine awp_if false rfl (fun hc => by cases hc) (fun _ => ?_)
   refine awp_skip ?_; try simp only [RR]
   refine awp_region rfl ?_
   simp only [hr, RR, seval]
   refine awpB_sealed ?_
   simp only [RR, seval]
   refine awpA_ownF hown (by simp only [List.length_map, List.length_cons, List.length_nil]; omega) (fun _ _ => trivial) fun v' H' ho' hk' hg' => ?_
   have hce := ho'.cells
   have hoe := ho'.one1
   have hr := hk' r _ hr (hown.offsz hr (by decide) _ _)
   simp only [hce, hoe, Option.bind_some, List.drop, hr, RR, seval]
   simp only [bodyQ, aresult, ares]
   rw [hrow] at ho'
   obtain ⟨g1, g2⟩ := hR.put (by omega) ho' hk' hg'
   exact Gives.run ⟨v', ⟨rfl, trivial⟩, g1, g2⟩
theorem at_val (q : AV) {a' z' x' : Int} (hx : u32R x') (hz : 0 ≤ z' ∧ z' ≤ 4096) (ha : 0 ≤ a' ∧ a' ≤ 32768) (hf : x' < z') :
  PCon env 55 [q, .int .i64 a', .int .i64 z', .int .u32 x'] (.int .i64 (a' + x')) := by
 have hx1 := hx.1
 have hx2 := hx.2
 have e1 : IntKind.wrap .u64 x' = x' := by simp [IntKind.wrap, IntKind.signed, IntKind.bits]; omega
 have e2 : IntKind.wrap .u64 z' = z' := by simp [IntKind.wrap, IntKind.signed, IntKind.bits]; omega
 have e3 : IntKind.wrap .i64 x' = x' := by rw [IntWalk.i64_in _ (by omega)]
 have zf : ¬ z' ≤ x' := by omega
 have e4 : IntKind.wrap .i64 (a' + x') = a' + x' := by rw [IntWalk.i64_in _ (by omega)]
 refine con_of 20 [.tmp 8] Tryd.func55 rfl rfl rfl rfl ?_
 refine awp_seq_k fun K hK => ?_
 refine awp_region rfl ?_
 simp only [RR, seval]
 refine hK _ _ ?_; clear hK K
 refine awp_seq ?_
 refine awp_seq_k fun K hK => ?_
 refine awp_region rfl ?_
 simp only [zf, e1, e2, RR, seval]
 refine hK _ _ ?_; clear hK K
 refine awp_if false rfl (fun hc => by cases hc) (fun _ => ?_)
 refine awp_skip ?_; try simp only [RR]
 refine awp_seq_k fun K hK => ?_
 refine awp_region rfl ?_
 simp only [e3, e4, RR, seval]
 refine hK _ _ ?_; clear hK K
 refine awp_ret ?_; simp only [bodyQ, aresult, ares, RR, seval]
 refine Gives.pure ?_
 rfl
theorem at_pan (q : AV) (a' : Int) {z' x' : Int} (hx : u32R x') (hz : 0 ≤ z' ∧ z' ≤ 4096) (hf : ¬ x' < z') :
  Con env 55 [q, .int .i64 a', .int .i64 z', .int .u32 x'] emp (fun ae H' => ae = .pan (endV 3) ∧ H' = emp) := by
 have hx1 := hx.1
 have hx2 := hx.2
 have e1 : IntKind.wrap .u64 x' = x' := by simp [IntKind.wrap, IntKind.signed, IntKind.bits]; omega
 have e2 : IntKind.wrap .u64 z' = z' := by simp [IntKind.wrap, IntKind.signed, IntKind.bits]; omega
 have zf : z' ≤ x' := by omega
 refine con_of 20 [.tmp 8] Tryd.func55 rfl rfl rfl rfl ?_
 refine awp_seq_k fun K hK => ?_
 refine awp_region rfl ?_
 simp only [RR, seval]
 refine hK _ _ ?_; clear hK K
 refine awp_seq ?_
 refine awp_seq_k fun K hK => ?_
 refine awp_region rfl ?_
 simp only [zf, e1, e2, RR, seval]
 refine hK _ _ ?_; clear hK K
 refine awp_if true rfl (fun _ => ?_) (fun hc => by cases hc)
 refine awp_region rfl ?_
 simp only [RR, seval]
 simp only [thenQ_pan, bodyQ_pan]
 exact ⟨rfl, by first | rfl | trivial⟩
theorem awpC_at {F : Nat → Prop} {ds : List (Option Nat)} {Q : APost} {d : Option Nat} {rest : List Oper} {fr : Fr} {q : AV} {a z x : Int} {H : Hp} (hx : u32R x) (hz : 0 ≤ z ∧ z ≤ 4096) (hf : ¬ x < z) (hp : Q (.pan (endV 3)) frU H) :
  awpC env F ds Q d rest fr H 55 [q, .int .i64 a, .int .i64 z, .int .u32 x] := by
 refine awpC_con (at_pan q a hx hz hf) (SubL.refl _) (hsub_emp _) (fun b hb => absurd rfl hb) fun ae H' h hnew => ?_
 obtain ⟨rfl, rfl⟩ := h
 rw [hjoin_emp]
 exact hp
end
theorem truth_con (b : Bool) : PCon env 79 [.bool b] (.int .u32 (if b = true then 1 else 0)) := by
 cases b
 ·skip
  refine con_of 4 [.tmp 2] Tryd.func79 rfl rfl rfl rfl ?_
  refine awp_seq_k fun K hK => ?_
  refine awp_region rfl ?_
  simp only [RR, seval]
  refine hK _ _ ?_; clear hK K
  refine awp_seq ?_
  refine awp_seq_k fun K hK => ?_
  refine awp_region rfl ?_
  simp only [RR, seval]
  refine hK _ _ ?_; clear hK K
  refine awp_if false rfl (fun hc => by cases hc) (fun _ => ?_)
  refine awp_skip ?_; try simp only [RR]
  refine awp_seq_k fun K hK => ?_
  refine awp_region rfl ?_
  simp only [RR, seval]
  refine hK _ _ ?_; clear hK K
  refine awp_ret ?_; simp only [bodyQ, aresult, ares, RR, seval]
  refine Gives.pure ?_
  rfl
 ·skip
  refine con_of 4 [.tmp 2] Tryd.func79 rfl rfl rfl rfl ?_
  refine awp_seq_k fun K hK => ?_
  refine awp_region rfl ?_
  simp only [RR, seval]
  refine hK _ _ ?_; clear hK K
  refine awp_seq ?_
  refine awp_seq_k fun K hK => ?_
  refine awp_region rfl ?_
  simp only [RR, seval]
  refine hK _ _ ?_; clear hK K
  refine awp_if true rfl (fun _ => ?_) (fun hc => by cases hc)
  refine awp_seq_k fun K hK => ?_
  refine awp_region rfl ?_
  simp only [RR, seval]
  refine hK _ _ ?_; clear hK K
  refine awp_ret ?_; simp only [bodyQ, aresult, ares, RR, seval]
  refine Gives.pure ?_
  rfl
end Go.Proofs.YtnfbbjhdflhmjaaDoor
