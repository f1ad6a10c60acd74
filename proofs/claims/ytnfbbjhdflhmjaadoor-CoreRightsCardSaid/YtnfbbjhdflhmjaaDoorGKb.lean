/- Chapter 19, the program's: a tick, a byte that comes in, one that goes out, an array's word. -/
import Derived.Test.YtnfbbjhdflhmjaaDoorGKa
import Derived.Test.YtnfbbjhdflhmjaaDoorMb
set_option linter.unusedSimpArgs false
set_option linter.unusedVariables false
set_option maxRecDepth 10000
namespace Go.Proofs.YtnfbbjhdflhmjaaDoor
open Go.Al
def Jk (e : Int) : AV := .ifc 56 (.agg [.int .i64 e])
def kP {α : Type} (cx : Kx) (W br bw : Nat) (vo : AV) (H : Hp) (f : α → AV) (P : α → Prop) (r : Rz α) : lL → Hp → Prop := fun ae H' =>
 ∃ vo', (match r with | .val v _ => ae = .ret (f v) ∧ P v | .fin e _ => ae = .pan (Jk e)) ∧ eN cx W br bw r.st vo' H' ∧ bO br bw vo vo' H H'
theorem eK {α : Type} {F : Nat → Prop} {ds : List (Option Nat)} {Q : dN} {d : Option Nat} {rest : List Oper} {fr : Fr} {H : Hp} {g : FuncId} {args : List AV} {cx : Kx} {W br bw : Nat} {vo : AV} {f : α → AV} {P : α → Prop} {r : Rz α}
  (hc : jN cO g args H (kP cx W br bw vo H f P r)) (hF : ∀ b, F b)
  (hp : ∀ e s vo' H', r = .fin e s → eN cx W br bw s vo' H' → bO br bw vo vo' H H' → Q (.pan (Jk e)) Fy H')
  (hv : ∀ v s vo' H', r = .val v s → P v → eN cx W br bw s vo' H' → bO br bw vo vo' H H' → cK cO F ds Q rest (dP fr d (f v)) H') : pJ cO F ds Q d rest fr H g args := by
 refine sS hc hF fun ae H' ⟨vo', h1, h2, h3⟩ => ?_
 cases r with
 | val v s =>
   obtain ⟨h1, h4⟩ := h1
   subst h1
   exact hv v s vo' H' rfl h4 h2 h3
 | fin e s =>
   subst h1
   exact hp e s vo' H' rfl h2 h3
section
variable {cx : Kx} {W r w : Nat} {st : RS} {vo : AV} {H : Hp}
theorem De (hx : tW cx W) (hR : eN cx W r w st vo H) : jN cO 80 [.ptr 7 r 0 0] H (kP cx W r w vo H (fun _ => .tup []) (fun _ => True) (eC cx.cx st)) := by
 have hr := hR.r
 by_cases hf : cx.fuel ≤ st.ticks
 ·have zf : (cx.fuel : Int) ≤ (st.ticks : Int) := by omega
  have e : eC cx.cx st = .fin 5 st := by unfold eC; rw [if_pos (show cx.cx.fuel ≤ st.ticks from hf)]
  rw [e]
  refine bD 20 [] Tryd.func80 rfl rfl rfl rfl ?_
  refine aJ ?_
  refine aB fun K hK => ?_
  refine bC (fun x => x ≠ r) [(0, 3), (1, 3), (2, 3), (3, 1), (4, 3), (5, 3), (6, 3), (7, 1), (8, 3)] [] dB (by kernel_rfl) rfl rfl ?_
  simp only [bW, hr, zf, RR, seval]
  refine hK _ _ ?_; clear hK K
  refine aI true rfl (fun _ => ?_) (fun hc => by cases hc)
  refine aA rfl ?_
  simp only [RR, seval]
  simp only [cL, cN]
  exact ⟨vo, rfl, hR, bO.refl _ _ _ _⟩
 have zf : ¬ (cx.fuel : Int) ≤ (st.ticks : Int) := by omega
 have e : eC cx.cx st = .val () { st with ticks := st.ticks + 1 } := by unfold eC; rw [if_neg (show ¬ cx.cx.fuel ≤ st.ticks from hf)]
 rw [e]
 have hfu := hx.fuel
 have e1 : IntKind.wrap .i64 ((st.ticks : Int) + 1) = ((st.ticks + 1 : Nat) : Int) := by rw [aR _ (by omega)]; omega
 refine bD 20 [] Tryd.func80 rfl rfl rfl rfl ?_
 refine aJ ?_
 refine aB fun K hK => ?_
 refine bC (fun x => x ≠ r) [(0, 3), (1, 3), (2, 3), (3, 1), (4, 3), (5, 3), (6, 3), (7, 1), (8, 3)] [] dB (by kernel_rfl) rfl rfl ?_
 simp only [bW, hr, zf, RR, seval]
 refine hK _ _ ?_; clear hK K
 refine aI false rfl (fun hc => by cases hc) (fun _ => ?_)
 refine aL ?_; try simp only [RR]
 refine aA rfl ?_
 simp only [hr, e1, RR, seval]
 try simp only [aV, aM, bE, seval]
 exact aU.run ⟨vo, ⟨rfl, trivial⟩, hR.turn (st' := { st with ticks := st.ticks + 1 }) rfl rfl hR.rd (by show st.ticks + 1 ≤ _; omega), bO.run _⟩
theorem Uf (hx : tW cx W) (hR : eN cx W r w st vo H) : jN cO 77 [.ptr 7 r 0 0] H (kP cx W r w vo H (fun n => .int .u32 n) cJ (kY cx.cx st)) := by
 have hr := hR.r
 have hrd := hR.rd
 have hin := hx.inp
 by_cases hf : cx.inp.length ≤ st.read
 ·have zf : (cx.inp.length : Int) ≤ (st.read : Int) := by omega
  have e : kY cx.cx st = .val 256 st := by unfold kY; rw [List.getElem?_eq_none (show cx.cx.inp.length ≤ st.read from hf)]
  rw [e]
  refine bD 32 [.tmp 2] Tryd.func77 rfl rfl rfl rfl ?_
  refine aB fun K hK => ?_
  refine aA rfl ?_
  simp only [RR, seval]
  refine hK _ _ ?_; clear hK K
  refine aJ ?_
  refine aB fun K hK => ?_
  refine bC (fun x => x ≠ r) [(0, 3), (1, 3), (2, 3), (3, 1), (4, 3), (5, 3), (6, 3), (7, 1), (8, 3), (9, 3)] [] dB (by kernel_rfl) rfl rfl ?_
  simp only [bW, hr, zf, RR, seval]
  refine hK _ _ ?_; clear hK K
  refine aI true rfl (fun _ => ?_) (fun hc => by cases hc)
  refine aB fun K hK => ?_
  refine aA rfl ?_
  simp only [RR, seval]
  refine hK _ _ ?_; clear hK K
  refine aP ?_; simp only [aV, aM, bE, RR, seval]
  exact aU.run ⟨vo, ⟨rfl, by simp [cJ]⟩, hR, bO.refl _ _ _ _⟩
  skip
 have zf : ¬ (cx.inp.length : Int) ≤ (st.read : Int) := by omega
 have hg := aH (show st.read < cx.inp.length by omega)
 generalize cx.inp[st.read] = c at hg
 have e : kY cx.cx st = .val c.toNat { st with read := st.read + 1 } := by unfold kY; rw [show cx.cx.inp[st.read]? = some c from hg]
 rw [e]
 have e1 : IntKind.wrap .i64 ((st.read : Int) + 1) = ((st.read + 1 : Nat) : Int) := by rw [aR _ (by omega)]; omega
 have hc := UInt8.toNat_lt c
 have hu : cJ (c.toNat : Int) := ⟨by omega, by omega⟩
 have e2 : IntKind.wrap .u32 (c.toNat : Int) = (c.toNat : Int) := by simp [IntKind.wrap, IntKind.signed, IntKind.bits]; omega
 refine bD 32 [.tmp 2] Tryd.func77 rfl rfl rfl rfl ?_
 refine aB fun K hK => ?_
 refine aA rfl ?_
 simp only [RR, seval]
 refine hK _ _ ?_; clear hK K
 refine aJ ?_
 refine aB fun K hK => ?_
 refine bC (fun x => x ≠ r) [(0, 3), (1, 3), (2, 3), (3, 1), (4, 3), (5, 3), (6, 3), (7, 1), (8, 3), (9, 3)] [] dB (by kernel_rfl) rfl rfl ?_
 simp only [bW, hr, zf, RR, seval]
 refine hK _ _ ?_; clear hK K
 refine aI false rfl (fun hc => by cases hc) (fun _ => ?_)
 refine aL ?_; try simp only [RR]
 refine aB fun K hK => ?_
 refine bC (fun x => x ≠ r) [(0, 3), (1, 3), (2, 3), (3, 1), (4, 3), (5, 3), (6, 3), (7, 1), (8, 3), (9, 3)] [] dB (by kernel_rfl) rfl rfl ?_
 simp only [bW, hr, hg, RR, seval]
 refine hK _ _ ?_; clear hK K
 refine aB fun K hK => ?_
 refine aA rfl ?_
 simp only [hr, e1, RR, seval]
 refine hK _ _ ?_; clear hK K
 refine aB fun K hK => ?_
 refine aA rfl ?_
 simp only [e2, RR, seval]
 refine hK _ _ ?_; clear hK K
 refine aP ?_; simp only [aV, aM, bE, RR, seval]
 exact aU.run ⟨vo, ⟨rfl, hu⟩, hR.turn (st' := { st with read := st.read + 1 }) rfl rfl (by show st.read + 1 ≤ _; omega) hR.tk, bO.run _⟩
 skip
theorem Tt (hR : eN cx W r w st vo H) (n : Int) : jN cO 56 [.ptr 7 r 0 0, .int .u32 n] H (kP cx W r w vo H (fun _ => .tup []) (fun _ => True) (lQ n st)) := by
 have hr := hR.r
 have hown := hR.o
 have hub := hR.ub
 have hlen : ∃ m, st.out.length = m ∧ (vo = .nsl ∧ m = 0 ∨ ∃ b, vo = .osl 1 b m) := ⟨_, rfl, by
  rcases hown with ⟨h1, h2⟩ | ⟨b, h1, h2⟩
  ·exact .inl ⟨h1, by simpa using h2⟩
  exact .inr ⟨b, by simpa using h1⟩⟩
 obtain ⟨m, hm, hvo⟩ := hlen
 by_cases hf : 65536 ≤ st.out.length
 ·have zf : (65536 : Int) ≤ (m : Int) := by omega
  have e : lQ n st = .fin 4 st := by unfold lQ; rw [if_pos hf]
  rw [e]
  rcases hvo with ⟨rfl, rfl⟩ | ⟨b, rfl⟩
  ·omega
  skip
  refine bD 23 [] Tryd.func56 rfl rfl rfl rfl ?_
  refine aJ ?_
  refine aB fun K hK => ?_
  refine aA rfl ?_
  simp only [hr, zf, RR, seval]
  refine hK _ _ ?_; clear hK K
  refine aI true rfl (fun _ => ?_) (fun hc => by cases hc)
  refine aA rfl ?_
  simp only [RR, seval]
  simp only [cL, cN]
  exact ⟨_, rfl, hR, bO.refl _ _ _ _⟩
 have zf : ¬ (65536 : Int) ≤ (m : Int) := by omega
 have e : lQ n st = .val () { st with out := st.out ++ [UInt8.ofNat (IntKind.wrap .u8 n).toNat] } := by unfold lQ; rw [if_neg hf]
 rw [e]
 have hc : ((UInt8.ofNat (IntKind.wrap .u8 n).toNat).toNat : Int) = IntKind.wrap .u8 n := by
  have h1 : IntKind.wrap .u8 n = n % 256 := by simp [IntKind.wrap, IntKind.signed, IntKind.bits]
  rw [h1]
  have := Int.emod_nonneg n (show (256 : Int) ≠ 0 by decide)
  have := Int.emod_lt_of_pos n (show (0 : Int) < 256 by decide)
  simp only [UInt8.toNat_ofNat']
  omega
 have hrow : [AV.int .u8 (IntKind.wrap .u8 n)] = nD (UInt8.ofNat (IntKind.wrap .u8 n).toNat) := by unfold nD; rw [hc]
 generalize UInt8.ofNat (IntKind.wrap .u8 n).toNat = c at hrow
 clear hc e
 rcases hvo with ⟨rfl, rfl⟩ | ⟨b, rfl⟩
 all_goals
  have zg : ¬ (65536 : Int) ≤ 0 := by decide
  refine bD 23 [] Tryd.func56 rfl rfl rfl rfl ?_
  refine aJ ?_
  refine aB fun K hK => ?_
  refine aA rfl ?_
  simp only [hr, zf, zg, RR, seval]
  refine hK _ _ ?_; clear hK K
  refine aI false rfl (fun hc => by cases hc) (fun _ => ?_)
  refine aL ?_; try simp only [RR]
  refine aA rfl ?_
  simp only [hr, RR, seval]
  refine eB ?_
  simp only [RR, seval]
  refine kK hown (by simp only [aD, bX, List.length_nil]; omega) (fun _ _ => trivial) fun v' H' ho' hk' hg' => ?_
  have hce := ho'.cells
  have hoe := ho'.one1
  have hr := hk' r _ hr (hown.offsz hr (by decide) _ _)
  simp only [hce, hoe, Option.bind_some, List.drop, hr, RR, seval]
  simp only [aV, aM, bE]
  rw [hrow] at ho'
  obtain ⟨g1, g2⟩ := hR.put (by omega) ho' hk' hg'
  exact aU.run ⟨v', ⟨rfl, trivial⟩, g1, g2⟩
theorem Sw (q : AV) {a' z' x' : Int} (hx : cJ x') (hz : 0 ≤ z' ∧ z' ≤ 4096) (ha : 0 ≤ a' ∧ a' ≤ 32768) (hf : x' < z') :
  dG cO 55 [q, .int .i64 a', .int .i64 z', .int .u32 x'] (.int .i64 (a' + x')) := by
 have hx1 := hx.1
 have hx2 := hx.2
 have e1 : IntKind.wrap .u64 x' = x' := by simp [IntKind.wrap, IntKind.signed, IntKind.bits]; omega
 have e2 : IntKind.wrap .u64 z' = z' := by simp [IntKind.wrap, IntKind.signed, IntKind.bits]; omega
 have e3 : IntKind.wrap .i64 x' = x' := by rw [aR _ (by omega)]
 have zf : ¬ z' ≤ x' := by omega
 have e4 : IntKind.wrap .i64 (a' + x') = a' + x' := by rw [aR _ (by omega)]
 refine bD 20 [.tmp 8] Tryd.func55 rfl rfl rfl rfl ?_
 refine aB fun K hK => ?_
 refine aA rfl ?_
 simp only [RR, seval]
 refine hK _ _ ?_; clear hK K
 refine aJ ?_
 refine aB fun K hK => ?_
 refine aA rfl ?_
 simp only [zf, e1, e2, RR, seval]
 refine hK _ _ ?_; clear hK K
 refine aI false rfl (fun hc => by cases hc) (fun _ => ?_)
 refine aL ?_; try simp only [RR]
 refine aB fun K hK => ?_
 refine aA rfl ?_
 simp only [e3, e4, RR, seval]
 refine hK _ _ ?_; clear hK K
 refine aP ?_; simp only [aV, aM, bE, RR, seval]
 refine aU.pure ?_
 rfl
theorem Xz (q : AV) (a' : Int) {z' x' : Int} (hx : cJ x') (hz : 0 ≤ z' ∧ z' ≤ 4096) (hf : ¬ x' < z') :
  jN cO 55 [q, .int .i64 a', .int .i64 z', .int .u32 x'] qF (fun ae H' => ae = .pan (Jk 3) ∧ H' = qF) := by
 have hx1 := hx.1
 have hx2 := hx.2
 have e1 : IntKind.wrap .u64 x' = x' := by simp [IntKind.wrap, IntKind.signed, IntKind.bits]; omega
 have e2 : IntKind.wrap .u64 z' = z' := by simp [IntKind.wrap, IntKind.signed, IntKind.bits]; omega
 have zf : z' ≤ x' := by omega
 refine bD 20 [.tmp 8] Tryd.func55 rfl rfl rfl rfl ?_
 refine aB fun K hK => ?_
 refine aA rfl ?_
 simp only [RR, seval]
 refine hK _ _ ?_; clear hK K
 refine aJ ?_
 refine aB fun K hK => ?_
 refine aA rfl ?_
 simp only [zf, e1, e2, RR, seval]
 refine hK _ _ ?_; clear hK K
 refine aI true rfl (fun _ => ?_) (fun hc => by cases hc)
 refine aA rfl ?_
 simp only [RR, seval]
 simp only [cL, cN]
 exact ⟨rfl, by first | rfl | trivial⟩
theorem Mf {F : Nat → Prop} {ds : List (Option Nat)} {Q : dN} {d : Option Nat} {rest : List Oper} {fr : Fr} {q : AV} {a z x : Int} {H : Hp} (hx : cJ x) (hz : 0 ≤ z ∧ z ≤ 4096) (hf : ¬ x < z) (hp : Q (.pan (Jk 3)) Fy H) :
  pJ cO F ds Q d rest fr H 55 [q, .int .i64 a, .int .i64 z, .int .u32 x] := by
 refine mT (Xz q a hx hz hf) (eQ.refl _) (oY _) (fun b hb => absurd rfl hb) fun ae H' h hnew => ?_
 obtain ⟨rfl, rfl⟩ := h
 rw [An]
 exact hp
end
theorem sZ (b : Bool) : dG cO 79 [.bool b] (.int .u32 (if b = true then 1 else 0)) := by
 cases b
 ·skip
  refine bD 4 [.tmp 2] Tryd.func79 rfl rfl rfl rfl ?_
  refine aB fun K hK => ?_
  refine aA rfl ?_
  simp only [RR, seval]
  refine hK _ _ ?_; clear hK K
  refine aJ ?_
  refine aB fun K hK => ?_
  refine aA rfl ?_
  simp only [RR, seval]
  refine hK _ _ ?_; clear hK K
  refine aI false rfl (fun hc => by cases hc) (fun _ => ?_)
  refine aL ?_; try simp only [RR]
  refine aB fun K hK => ?_
  refine aA rfl ?_
  simp only [RR, seval]
  refine hK _ _ ?_; clear hK K
  refine aP ?_; simp only [aV, aM, bE, RR, seval]
  refine aU.pure ?_
  rfl
 skip
 refine bD 4 [.tmp 2] Tryd.func79 rfl rfl rfl rfl ?_
 refine aB fun K hK => ?_
 refine aA rfl ?_
 simp only [RR, seval]
 refine hK _ _ ?_; clear hK K
 refine aJ ?_
 refine aB fun K hK => ?_
 refine aA rfl ?_
 simp only [RR, seval]
 refine hK _ _ ?_; clear hK K
 refine aI true rfl (fun _ => ?_) (fun hc => by cases hc)
 refine aB fun K hK => ?_
 refine aA rfl ?_
 simp only [RR, seval]
 refine hK _ _ ?_; clear hK K
 refine aP ?_; simp only [aV, aM, bE, RR, seval]
 refine aU.pure ?_
 rfl
end Go.Proofs.YtnfbbjhdflhmjaaDoor
