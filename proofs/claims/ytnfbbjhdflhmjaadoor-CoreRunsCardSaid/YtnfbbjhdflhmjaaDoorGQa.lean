/- Chapter 19, the judge's: how its run in the midst lies in memory; a tick. -/
import Derived.Test.YtnfbbjhdflhmjaaDoorGKe
import Derived.Test.YtnfbbjhdflhmjaaDoorGJa
set_option linter.unusedSimpArgs false
set_option linter.unusedVariables false
set_option maxRecDepth 10000
namespace Go.Al
structure dR (cx : Kx) (fu : Int) (W br bw : Nat) (st : RS) (vo : AV) (en : Int) (bo : Bool) (vl : Int) (H : Hp) : Prop where
 r : H br = some (.rows 11 [[.int .i64 (W : Int), .isl 5 (cx.funs.map CF.row), .osl 1 bw st.vars.length, .str cx.inp, .int .i64 st.read, vo, .int .i64 st.ticks, .int .i64 fu, .int .i64 en, .bool bo, .int .u32 vl]])
 v : H bw = some (.rows 1 (st.vars.map fE))
 o : dW 1 vo (st.out.map nD) H
 ov : off vo bw
 uv : ∀ x ∈ st.vars, cJ x
 ub : st.out.length ≤ 65536
 rd : st.read ≤ cx.inp.length
 tk : st.ticks ≤ cx.fuel
 lw : st.vars.length = W
section
variable {cx : Kx} {fu : Int} {W br bw : Nat} {st : RS} {vo : AV} {en : Int} {bo : Bool} {vl : Int} {H : Hp}
theorem dR.nbr (h : dR cx fu W br bw st vo en bo vl H) {b s : Nat} {l : List (List AV)} (hb : H b = some (.rows s l)) (hs : s ≠ 11) : b ≠ br := fun e => by rw [e, h.r] at hb; cases hb; exact hs rfl
theorem dR.bwr (h : dR cx fu W br bw st vo en bo vl H) : bw ≠ br := h.nbr h.v (by decide)
theorem dR.nbw (h : dR cx fu W br bw st vo en bo vl H) {b s : Nat} {l : List (List AV)} (hb : H b = some (.rows s l)) (hs : s ≠ 1) : b ≠ bw := fun e => by rw [e, h.v] at hb; cases hb; exact hs rfl
theorem dR.same (h : dR cx fu W br bw st vo en bo vl H) {H' : Hp} (he : ∀ b, H' b = H b) : dR cx fu W br bw st vo en bo vl H' := by
 have : H' = H := funext he
 rw [this]; exact h
theorem dR.new (h : dR cx fu W br bw st vo en bo vl H) {b : Nat} (hb : H b = none) (o : Option eR) : dR cx fu W br bw st vo en bo vl (upd H b o) := by
 have n1 : br ≠ b := fun e => by have := h.r; rw [e, hb] at this; cases this
 have n2 : bw ≠ b := fun e => by have := h.v; rw [e, hb] at this; cases this
 exact { h with r := by rw [cG _ _ n1]; exact h.r, v := by rw [cG _ _ n2]; exact h.v, o := h.o.upd hb o }
theorem dR.other (h : dR cx fu W br bw st vo en bo vl H) {b : Nat} (h1 : b ≠ br) (h2 : b ≠ bw) (h3 : off vo b) (o : Option eR) : dR cx fu W br bw st vo en bo vl (upd H b o) :=
 { h with r := by rw [cG _ _ (Ne.symm h1)]; exact h.r, v := by rw [cG _ _ (Ne.symm h2)]; exact h.v, o := h.o.off h3 o }
theorem dR.keep (h : dR cx fu W br bw st vo en bo vl H) {b s : Nat} {l : List (List AV)} {vo' : AV} {H' : Hp} (hb : H b = some (.rows s l)) (h1 : s ≠ 1) (h2 : s ≠ 11) (hk : bO br bw vo vo' H H') : H' b = some (.rows s l) :=
 (hk b _ hb (h.nbr hb h2) (h.nbw hb h1) (h.o.offsz hb h1)).1
theorem dR.turn (h : dR cx fu W br bw st vo en bo vl H) {st' : RS} (en' : Int) (bo' : Bool) (vl' : Int) (hv : st'.vars = st.vars) (ho : st'.out = st.out) (hrd : st'.read ≤ cx.inp.length) (htk : st'.ticks ≤ cx.fuel) :
  dR cx fu W br bw st' vo en' bo' vl' (upd H br (some (.rows 11 [[.int .i64 (W : Int), .isl 5 (cx.funs.map CF.row), .osl 1 bw st'.vars.length, .str cx.inp, .int .i64 st'.read, vo, .int .i64 st'.ticks, .int .i64 fu, .int .i64 en', .bool bo', .int .u32 vl']]))) :=
 ⟨bR _ _ _, by rw [cG _ _ h.bwr, hv]; exact h.v, by rw [ho]; exact h.o.off (h.o.offsz h.r (by decide)) _, h.ov, by rw [hv]; exact h.uv, by rw [ho]; exact h.ub, hrd, htk, by rw [hv]; exact h.lw⟩
theorem dR.setAll (h : dR cx fu W br bw st vo en bo vl H) {l : List Int} (hl : l.length = st.vars.length) (hu : ∀ x ∈ l, cJ x) : dR cx fu W br bw { st with vars := l } vo en bo vl (upd H bw (some (.rows 1 (l.map fE)))) := by
 have n2 : br ≠ bw := Ne.symm h.bwr
 refine ⟨?_, bR _ _ _, h.o.off h.ov _, h.ov, hu, h.ub, h.rd, h.tk, hl.trans h.lw⟩
 rw [cG _ _ n2]
 show H br = some (.rows 11 [[_, _, .osl 1 bw l.length, _, _, _, _, _, _, _, _]])
 rw [hl]; exact h.r
theorem dR.setV (h : dR cx fu W br bw st vo en bo vl H) (i : Nat) (v : Int) (hv : cJ v) : dR cx fu W br bw { st with vars := st.vars.set i v } vo en bo vl (upd H bw (some (.rows 1 ((st.vars.map fE).set i [.int .u32 v])))) := by
 rw [pW]
 refine h.setAll (by simp) fun x hx => ?_
 rcases List.mem_or_eq_of_mem_set hx with hx | rfl
 ·exact h.uv x hx
 exact hv
theorem dR.put {v' : AV} {H' : Hp} (h : dR cx fu W br bw st vo en bo vl H) {c : UInt8} (hl : st.out.length < 65536) (ho : dW 1 v' (st.out.map nD ++ [nD c]) H')
  (hk : ∀ b o, H b = some o → vo ≠ .osl 1 b (st.out.map nD).length → H' b = some o) (hg : ∀ b, off vo b → H b ≠ none → off v' b) :
  dR cx fu W br bw { st with out := st.out ++ [c] } v' en bo vl (upd H' br (some (.rows 11 [[.int .i64 (W : Int), .isl 5 (cx.funs.map CF.row), .osl 1 bw st.vars.length, .str cx.inp, .int .i64 st.read, v', .int .i64 st.ticks, .int .i64 fu, .int .i64 en, .bool bo, .int .u32 vl]]))) ∧
  bO br bw vo v' H (upd H' br (some (.rows 11 [[.int .i64 (W : Int), .isl 5 (cx.funs.map CF.row), .osl 1 bw st.vars.length, .str cx.inp, .int .i64 st.read, v', .int .i64 st.ticks, .int .i64 fu, .int .i64 en, .bool bo, .int .u32 vl]]))) := by
 have n2 := h.bwr
 have hob : off vo br := h.o.offsz h.r (by decide)
 have hob' : off v' br := hg br hob (by rw [h.r]; exact cB _)
 refine ⟨⟨bR _ _ _, ?_, ?_, hg bw h.ov (by rw [h.v]; exact cB _), h.uv, ?_, h.rd, h.tk, h.lw⟩, fun b o hb h1 h2 h4 => ⟨?_, hg b h4 (by rw [hb]; exact cB _)⟩⟩
 ·rw [cG _ _ n2]; exact hk _ _ h.v (h.ov _ _)
 ·rw [List.map_append]
  exact ho.off hob' _
 ·simp only [bU, List.length_singleton]; omega
 rw [cG _ _ h1]; exact hk _ _ hb (h4 _ _)
end
mutual
def Xn : CS → Prop
 | .mk k _ _ _ t u => (1 ≤ k ∧ k ≤ 7) ∧ oX t ∧ oX u
def oX : List CS → Prop
 | [] => True
 | s :: l => Xn s ∧ oX l
end
theorem Fb : ∀ {l : List CS} {j : Nat} {e : CS}, oX l → l[j]? = some e → Xn e
 | [], j, e, _, h => by simp at h
 | x :: l, 0, e, hw, h => by
   simp only [oX] at hw
   simp only [List.getElem?_cons_zero, Option.some.injEq] at h
   subst h
   exact hw.1
 | x :: l, j + 1, e, hw, h => by
   simp only [oX] at hw
   simp only [List.getElem?_cons_succ] at h
   exact Fb hw.2 h
def nU {α : Type} : Rz α → Int | .val _ _ => 0 | .fin e _ => e
def iO : Rz (Option Int) → Bool | .val (some _) _ => true | _ => false
theorem fF {α : Type} {o : Rz α} (he : ∀ e s, o = .fin e s → e ≠ 0) (h : nU o = 0) : ∃ v s, o = .val v s := by
 cases o with
 | val v s => exact ⟨v, s, rfl⟩
 | fin e s => exact absurd h (he e s rfl)
theorem fO {α : Type} {o : Rz α} (h : ¬ nU o = 0) : ∃ e s, o = .fin e s := by
 cases o with
 | val v s => exact absurd rfl h
 | fin e s => exact ⟨e, s, rfl⟩
def En (cx : Kx) (fu : Int) (W r w : Nat) (vo : AV) (H : Hp) (o : Rz Int) : lL → Hp → Prop := fun ae H' =>
 ∃ x vo' vl', ae = .ret (.int .u32 x) ∧ cJ x ∧ (∀ v s, o = .val v s → x = v) ∧ (∀ e s, o = .fin e s → e ≠ 0) ∧ cJ vl' ∧ dR cx fu W r w o.st vo' (nU o) false vl' H' ∧ bO r w vo vo' H H'
def Em (cx : Kx) (fu : Int) (W r w : Nat) (vo : AV) (H : Hp) (o : Rz (Option Int)) : lL → Hp → Prop := fun ae H' =>
 ∃ vo' vl', ae = .ret (.tup []) ∧ (∀ e s, o = .fin e s → e ≠ 0) ∧ cJ vl' ∧ (∀ v s, o = .val (some v) s → vl' = v) ∧ dR cx fu W r w o.st vo' (nU o) (iO o) vl' H' ∧ bO r w vo vo' H H'
end Go.Al
namespace Go.Proofs.YtnfbbjhdflhmjaaDoor
open Go.Al
section
variable {F : Nat → Prop} {ds : List (Option Nat)} {Q : dN} {d : Option Nat} {rest : List Oper} {fr : Fr} {H : Hp} {g : FuncId} {args : List AV} {cx : Kx} {fu : Int} {W r w : Nat} {vo : AV}
theorem gI {o : Rz Int} (hc : jN cO g args H (En cx fu W r w vo H o)) (hF : ∀ b, F b)
  (h : ∀ x vo' vl' H', cJ x → (∀ v s, o = .val v s → x = v) → (∀ e s, o = .fin e s → e ≠ 0) → cJ vl' → dR cx fu W r w o.st vo' (nU o) false vl' H' → bO r w vo vo' H H' → cK cO F ds Q rest (dP fr d (.int .u32 x)) H') : pJ cO F ds Q d rest fr H g args := by
 refine sS hc hF fun ae H' ⟨x, vo', vl', h1, h2, h3, h4, h5, h6, h7⟩ => ?_
 subst h1
 exact h x vo' vl' H' h2 h3 h4 h5 h6 h7
theorem tO {o : Rz (Option Int)} (hc : jN cO g args H (Em cx fu W r w vo H o)) (hF : ∀ b, F b)
  (h : ∀ vo' vl' H', (∀ e s, o = .fin e s → e ≠ 0) → cJ vl' → (∀ v s, o = .val (some v) s → vl' = v) → dR cx fu W r w o.st vo' (nU o) (iO o) vl' H' → bO r w vo vo' H H' → cK cO F ds Q rest (dP fr d (.tup [])) H') : pJ cO F ds Q d rest fr H g args := by
 refine sS hc hF fun ae H' ⟨vo', vl', h1, h2, h3, h4, h5, h6⟩ => ?_
 subst h1
 exact h vo' vl' H' h2 h3 h4 h5 h6
theorem Me {vl : Int} {o : Rz Unit} (hc : jN cO g args H (fun ae H' => ae = .ret (.bool (decide (nU o = 0))) ∧ (∀ e s, o = .fin e s → e ≠ 0) ∧ dR cx fu W r w o.st vo (nU o) false vl H' ∧ bO r w vo vo H H')) (hF : ∀ b, F b)
  (h : ∀ H', (∀ e s, o = .fin e s → e ≠ 0) → dR cx fu W r w o.st vo (nU o) false vl H' → bO r w vo vo H H' → cK cO F ds Q rest (dP fr d (.bool (decide (nU o = 0)))) H') : pJ cO F ds Q d rest fr H g args := by
 refine sS hc hF fun ae H' ⟨h1, h2, h3, h4⟩ => ?_
 subst h1
 exact h H' h2 h3 h4
end
theorem tG (b : Bool) : dG cO 81 [.bool b] (.int .u32 (if b = true then 1 else 0)) := by
 cases b
 ·skip
  refine bD 4 [.tmp 2] Tryd.func81 rfl rfl rfl rfl ?_
  refine aB fun K hK => ?_
  refine aA rfl ?_
  simp only [RR, seval]
  refine hK _ _ ?_; clear hK K
  refine aJ ?_
  refine aB fun K hK => ?_
  refine aA rfl ?_
  simp only [RR, seval]
  refine hK _ _ ?_; clear hK K
  refine aI false rfl (fun hc => by cases hc) (fun _ => ?_)
  refine aL ?_; try simp only [RR]
  refine aB fun K hK => ?_
  refine aA rfl ?_
  simp only [RR, seval]
  refine hK _ _ ?_; clear hK K
  refine aP ?_; simp only [aV, aM, bE, RR, seval]
  refine aU.pure ?_
  rfl
 skip
 refine bD 4 [.tmp 2] Tryd.func81 rfl rfl rfl rfl ?_
 refine aB fun K hK => ?_
 refine aA rfl ?_
 simp only [RR, seval]
 refine hK _ _ ?_; clear hK K
 refine aJ ?_
 refine aB fun K hK => ?_
 refine aA rfl ?_
 simp only [RR, seval]
 refine hK _ _ ?_; clear hK K
 refine aI true rfl (fun _ => ?_) (fun hc => by cases hc)
 refine aB fun K hK => ?_
 refine aA rfl ?_
 simp only [RR, seval]
 refine hK _ _ ?_; clear hK K
 refine aP ?_; simp only [aV, aM, bE, RR, seval]
 refine aU.pure ?_
 rfl
structure Ot (cx : Kx) (fu : Int) (W : Nat) : Prop where
 k : tW cx W
 f : ∀ t : Nat, fu ≤ (t : Int) ↔ cx.fuel ≤ t
 d : ∀ f ∈ cx.funs, oX f.body
section
variable {cx : Kx} {fu : Int} {W r w : Nat} {st : RS} {vo : AV} {vl : Int} {H : Hp}
theorem Ah (hx : Ot cx fu W) (hR : dR cx fu W r w st vo 0 false vl H) : jN cO 60 [.ptr 11 r 0 0] H (fun ae H' => ae = .ret (.bool (decide (nU (eC cx.cx st) = 0))) ∧ (∀ e s, eC cx.cx st = .fin e s → e ≠ 0) ∧ dR cx fu W r w (eC cx.cx st).st vo (nU (eC cx.cx st)) false vl H' ∧ bO r w vo vo H H') := by
 have hr := hR.r
 by_cases hf : cx.fuel ≤ st.ticks
 ·have zf : fu ≤ (st.ticks : Int) := (hx.f _).2 hf
  have e : eC cx.cx st = .fin 5 st := by unfold eC; rw [if_pos (show cx.cx.fuel ≤ st.ticks from hf)]
  rw [e]
  refine bD 22 [.tmp 2] Tryd.func60 rfl rfl rfl rfl ?_
  refine aB fun K hK => ?_
  refine aA rfl ?_
  simp only [RR, seval]
  refine hK _ _ ?_; clear hK K
  refine aJ ?_
  refine aB fun K hK => ?_
  refine bC (fun x => x ≠ r) [(0, 3), (1, 3), (2, 3), (3, 1), (4, 3), (5, 3), (6, 3), (7, 1), (8, 3)] [] dB (by kernel_rfl) rfl rfl ?_
  simp only [bW, hr, zf, RR, seval]
  refine hK _ _ ?_; clear hK K
  refine aI true rfl (fun _ => ?_) (fun hc => by cases hc)
  refine aB fun K hK => ?_
  refine aA rfl ?_
  simp only [hr, RR, seval]
  refine hK _ _ ?_; clear hK K
  refine aB fun K hK => ?_
  refine aA rfl ?_
  simp only [RR, seval]
  refine hK _ _ ?_; clear hK K
  refine aP ?_; simp only [aV, aM, bE, RR, seval]
  exact aU.run ⟨rfl, (fun e s h => by cases h; decide), hR.turn 5 false vl rfl rfl hR.rd hR.tk, bO.run _⟩
  skip
 have zf : ¬ fu ≤ (st.ticks : Int) := fun h => hf ((hx.f _).1 h)
 have e : eC cx.cx st = .val () { st with ticks := st.ticks + 1 } := by unfold eC; rw [if_neg (show ¬ cx.cx.fuel ≤ st.ticks from hf)]
 rw [e]
 have hfu := hx.k.fuel
 have e1 : IntKind.wrap .i64 ((st.ticks : Int) + 1) = ((st.ticks + 1 : Nat) : Int) := by rw [aR _ (by omega)]; omega
 refine bD 22 [.tmp 2] Tryd.func60 rfl rfl rfl rfl ?_
 refine aB fun K hK => ?_
 refine aA rfl ?_
 simp only [RR, seval]
 refine hK _ _ ?_; clear hK K
 refine aJ ?_
 refine aB fun K hK => ?_
 refine bC (fun x => x ≠ r) [(0, 3), (1, 3), (2, 3), (3, 1), (4, 3), (5, 3), (6, 3), (7, 1), (8, 3)] [] dB (by kernel_rfl) rfl rfl ?_
 simp only [bW, hr, zf, RR, seval]
 refine hK _ _ ?_; clear hK K
 refine aI false rfl (fun hc => by cases hc) (fun _ => ?_)
 refine aL ?_; try simp only [RR]
 refine aB fun K hK => ?_
 refine aA rfl ?_
 simp only [hr, e1, RR, seval]
 refine hK _ _ ?_; clear hK K
 refine aB fun K hK => ?_
 refine aA rfl ?_
 simp only [RR, seval]
 refine hK _ _ ?_; clear hK K
 refine aP ?_; simp only [aV, aM, bE, RR, seval]
 exact aU.run ⟨rfl, (fun e s h => by cases h), hR.turn (st' := { st with ticks := st.ticks + 1 }) 0 false vl rfl rfl hR.rd (by show st.ticks + 1 ≤ _; omega), bO.run _⟩
 skip
end
structure Tb (cx : Kx) (fu : Int) (W r w : Nat) (n : Nat) : Prop where
 V : ∀ (i : Nat) (e : CE) (st : RS) (vo : AV) (vl : Int) (H : Hp) (o : Rz Int), e.ok → Hv (W : Int) cx.funs i e → cJ vl → dR cx fu W r w st vo 0 false vl H → fJ cx n e st = some o →
   jN cO 61 [.ptr 11 r 0 0, .agg e.row] H (En cx fu W r w vo H o)
 C : ∀ (i : Nat) (a : Int) (f : CF) (l : List CE) (st : RS) (vo : AV) (vl : Int) (H : Hp) (o : Rz Int), lS l → lH (W : Int) cx.funs i l → 0 ≤ a → cx.funs[a.toNat]? = some f → f.params = l.length → cJ vl → dR cx fu W r w st vo 0 false vl H → oL cx n a l st = some o →
   jN cO 59 [.ptr 11 r 0 0, .int .i64 a, .isl 6 (l.map CE.row)] H (En cx fu W r w vo H o)
 S : ∀ (i : Nat) (e : CS) (st : RS) (vo : AV) (vl : Int) (H : Hp) (o : Rz (Option Int)), e.ok → Cy (W : Int) cx.funs i e → Xn e → cJ vl → dR cx fu W r w st vo 0 false vl H → nR cx n e st = some o →
   jN cO 38 [.ptr 11 r 0 0, .agg e.row] H (Em cx fu W r w vo H o)
 L : ∀ (i : Nat) (l : List CS) (st : RS) (vo : AV) (vl : Int) (H : Hp) (o : Rz (Option Int)), oV l → lO (W : Int) cx.funs i l → oX l → cJ vl → dR cx fu W r w st vo 0 false vl H → gX cx n l st = some o →
   jN cO 24 [.ptr 11 r 0 0, .isl 6 (l.map CS.row)] H (Em cx fu W r w vo H o)
end Go.Proofs.YtnfbbjhdflhmjaaDoor
