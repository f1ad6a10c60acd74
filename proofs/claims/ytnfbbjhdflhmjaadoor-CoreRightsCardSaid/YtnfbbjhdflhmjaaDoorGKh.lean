/- Chapter 19, the program's: Run. -/
import Derived.Test.YtnfbbjhdflhmjaaDoorGKg
set_option linter.unusedSimpArgs false
set_option linter.unusedVariables false
set_option maxRecDepth 10000
namespace Go.Proofs.YtnfbbjhdflhmjaaDoor
open Go.Al
theorem Jz {F : Nat → Prop} {ds : List (Option Nat)} {Q : dN} {d : Option Nat} {rest : List Oper} {fr : Fr} {H : Hp} {g : FuncId} {args : List AV} {cx : Kx} {W r w : Nat} {vo : AV} {b7 : Nat} {l7 : List (List AV)} {o : Rz (Option Int)}
  (hc : jN cO g args (upd H b7 none) (kP cx W r w vo (upd H b7 none) kL kM o)) (h7 : H b7 = some (.rows 1 l7)) (hF : ∀ b, b ≠ b7 → F b)
  (hp : ∀ e s vo' H', o = .fin e s → eN cx W r w s vo' H' → H' b7 = some (.rows 1 l7) → off vo' b7 → (∀ b x, H b = some x → b ≠ r → b ≠ w → off vo b → H' b = some x) → Q (.pan (Jk e)) Fy H')
  (hv : ∀ p s vo' H', o = .val p s → eN cx W r w s vo' H' → H' b7 = some (.rows 1 l7) → off vo' b7 → (∀ b x, H b = some x → b ≠ r → b ≠ w → off vo b → H' b = some x) → cK cO F ds Q rest (dP fr d (kL p)) H') : pJ cO F ds Q d rest fr H g args := by
 have oM : oM (upd H b7 none) H := fun b x hb => by
  by_cases e : b = b7
  ·subst e; rw [bR] at hb; cases hb
  rw [cG _ _ e] at hb; exact hb
 refine mT hc (eQ.refl _) oM (fun b hb => hF b fun e => hb (by rw [e, bR])) fun ae H' ⟨vo', h1, h2, h3⟩ hnew => ?_
 have hn7 : H' b7 = none := by
  cases hq : H' b7 with
  | none => rfl
  | some x =>
    rcases hnew b7 (by rw [hq]; exact cB _) with h | h
    ·exact absurd (bR _ _ _) h
    rw [h7] at h; cases h
 have hk : ∀ b x, H' b = some x → gZ H' (upd H b7 none) H b = some x := fun b x hb => by simp only [gZ, hb]
 have g7 : gZ H' (upd H b7 none) H b7 = some (.rows 1 l7) := by simp only [gZ, hn7, bR, Option.isSome_none, Bool.false_eq_true, if_false]; exact h7
 have go7 : off vo' b7 := fun s n e => h2.o.there s b7 n e hn7
 have gk : ∀ b x, H b = some x → b ≠ r → b ≠ w → off vo b → gZ H' (upd H b7 none) H b = some x := fun b x hb q1 q2 q4 => by
  by_cases e : b = b7
  ·subst e; rw [g7, ← h7, hb]
  exact hk b x (h3 b x (by rw [cG _ _ e]; exact hb) q1 q2 q4).1
 have gR := h2.sub hk
 cases o with
 | val p s =>
   obtain ⟨h1, _⟩ := h1
   subst h1
   exact hv p s vo' _ rfl gR g7 go7 gk
 | fin e s =>
   subst h1
   exact hp e s vo' _ rfl gR g7 go7 gk
def qQ (c : Co) (inp : dL) (fu : Int) : Kx := ⟨c.funs, inp, (if fu < 0 then 0 else fu).toNat⟩
set_option maxHeartbeats 8000000 in
theorem Ml (c : Co) (hw0 : 0 ≤ c.words) (hx0 : tW (qQ c [] 0) c.words.toNat) (hf1 : 1 ≤ c.funs.length) (hf2 : c.funs.length ≤ 10000) (inp : dL) (hin : inp.length ≤ 2000000) (fu : Int) (hfu : cX fu) {n : Nat} {e : Int} {out : dL} {t : Nat} (hrun : nB (qQ c inp fu) n c.words.toNat = some (e, out, t)) :
  dG cO 10 [c.av, .str inp, .int .i64 fu] (vA e out t) := by
 have hfl : ((qQ c inp fu).fuel : Int) = if fu < 0 then 0 else fu := by
  show (((if fu < 0 then 0 else fu).toNat : Nat) : Int) = _
  split <;> omega
 have hx : tW (qQ c inp fu) c.words.toNat := ⟨hin, by have := hfu.2; split at hfl <;> omega, hx0.wl, hx0.funs, hx0.body⟩
 have hlast : c.funs.length - 1 < c.funs.length := by omega
 have hg0 := aH hlast
 have hgw := hx.funs.body _ _ hg0
 have hgb := hx.body _ (bA hlast)
 have hgl : c.funs.getLast? = some c.funs[c.funs.length - 1] := by rw [List.getLast?_eq_getElem?, aH hlast]
 generalize c.funs[c.funs.length - 1] = g at hg0 hgw hgb hgl
 obtain ⟨o, hev, hend⟩ : ∃ o, gX (qQ c inp fu) n g.body ⟨List.replicate c.words.toNat 0, [], 0, [], 0⟩ = some o ∧ oN o = (e, out, t) := by
  unfold nB at hrun
  rw [show (qQ c inp fu).funs = c.funs from rfl, hgl] at hrun
  simp only [Option.bind_some, aZ] at hrun
  exact hrun
 clear hrun
 have hrowg := jE hg0
 have hC := J5 (cx := qQ c inp fu) hx
 have hcf : (qQ c inp fu).funs = c.funs := rfl
 have hci : (qQ c inp fu).inp = inp := rfl
 have hfu2 := hx.fuel
 have hW := hx.wl
 have hWe : c.words = ((c.words.toNat : Nat) : Int) := by omega
 generalize c.words.toNat = W at *
 have hav : c.av = .agg [.int .i64 (W : Int), .isl 5 (c.funs.map CF.row)] := by unfold Co.av Co.row; rw [hWe]
 rw [hav]
 generalize qQ c inp fu = cx at *
 have e1 : (4 : Int) * (W : Int) ≤ 281474976710656 := by omega
 have e3 : IntKind.wrap .i64 ((c.funs.length : Int) - 1) = ((c.funs.length - 1 : Nat) : Int) := by rw [aR _ (by omega)]; omega
 obtain ⟨fl, hfl2⟩ : ∃ fl : Int, fl = (cx.fuel : Int) := ⟨_, rfl⟩
 have hflx : (if fu < 0 then 0 else fu) = fl := by rw [hfl2, hfl]
 have hzl : ((c.funs.length - 1 : Nat) : Int) < (c.funs.length : Int) := by omega
 refine Si 40 Tryd.func10 rfl rfl rfl ?_
 refine xQ fun K hK => ?_
 refine aA rfl ?_
 simp only [RR, seval]
 refine aK fun b3 hn3 => ?_
 simp only [RR, seval]
 refine aK fun b6 hn6 => ?_
 have nb6_b3 : b6 ≠ b3 := fun e => by rw [e] at hn6; simp only [RR, seval, reduceCtorEq] at hn6
 have nb3_b6 : b3 ≠ b6 := fun e => nb6_b3 e.symm
 simp only [RR, seval]
 refine hK _ _ ?_; clear hK K
 refine xQ fun K hK => ?_
 refine dH (fun fr M => ∃ b7 b12 b17, fr 3 = .ptr 2 b3 0 0 ∧ fr 6 = .ptr 3 b6 0 0 ∧ fr 7 = .ptr 1 b7 0 0 ∧ M b3 = some (.rows 2 [[.int .i64 (W : Int), .isl 5 (c.funs.map CF.row)]]) ∧ M b6 = some (.rows 3 [[.int .i64 0, .str [], .int .i64 0]]) ∧ M b7 = some (.rows 1 [[.ptr 7 b17 0 0]]) ∧ M b12 = some (.rows 1 (List.replicate W [.int .u32 0])) ∧ M b17 = some (.rows 7 [[.isl 5 (c.funs.map CF.row), .osl 1 b12 W, .str inp, .int .i64 0, .nsl, .int .i64 0, .int .i64 fl]]) ∧ b7 ≠ b12 ∧ b3 ≠ b6) (fun KR1 hKR1 => ?_) ?_
 ·refine eZ (fun x => x ≠ b3) dB (by kernel_rfl) fun hd => ?_
  refine cM [(0, 3), (1, 0), (2, 3), (3, 0), (5, 3), (6, 3), (7, 3)] hd (m := 5) rfl (by kernel_rfl) rfl rfl ?_
  simp only [bW, dJ, nb3_b6, hflx, RR, seval]
  refine dI hd (by kernel_rfl : Region.ready .any _ _ = [4, 10]) (by simp) ⟨?_, ?_, trivial⟩
  ·simp only [e1, RR, seval]
   refine aK fun b12 hn12 => ?_
   have nb12_b3 : b12 ≠ b3 := fun e => by rw [e] at hn12; simp only [nb3_b6, RR, seval, reduceCtorEq] at hn12
   have nb3_b12 : b3 ≠ b12 := fun e => nb12_b3 e.symm
   have nb12_b6 : b12 ≠ b6 := fun e => by rw [e] at hn12; simp only [RR, seval, reduceCtorEq] at hn12
   have nb6_b12 : b6 ≠ b12 := fun e => nb12_b6 e.symm
   simp only [RR, seval]
   refine cM [(8, 3)] hd (m := 3) rfl (by kernel_rfl) rfl rfl ?_
   simp only [bW, RR, seval]
   refine dI hd (by kernel_rfl : Region.ready .any _ _ = [9, 10]) (by simp) ⟨?_, ?_, trivial⟩
   ·simp only [RR, seval]
    refine aK fun b17 hn17 => ?_
    have nb17_b3 : b17 ≠ b3 := fun e => by rw [e] at hn17; simp only [nb3_b6, nb3_b12, RR, seval, reduceCtorEq] at hn17
    have nb3_b17 : b3 ≠ b17 := fun e => nb17_b3 e.symm
    have nb17_b6 : b17 ≠ b6 := fun e => by rw [e] at hn17; simp only [nb6_b12, RR, seval, reduceCtorEq] at hn17
    have nb6_b17 : b6 ≠ b17 := fun e => nb17_b6 e.symm
    have nb17_b12 : b17 ≠ b12 := fun e => by rw [e] at hn17; simp only [RR, seval, reduceCtorEq] at hn17
    have nb12_b17 : b12 ≠ b17 := fun e => nb17_b12 e.symm
    simp only [RR, seval]
    refine cM [(10, 1), (11, 1)] hd (m := 0) rfl (by kernel_rfl) rfl rfl ?_
    simp only [bW, RR, seval]
    refine aK fun b7 hn7 => ?_
    have nb7_b3 : b7 ≠ b3 := fun e => by rw [e] at hn7; simp only [nb3_b6, nb3_b12, nb3_b17, RR, seval, reduceCtorEq] at hn7
    have nb3_b7 : b3 ≠ b7 := fun e => nb7_b3 e.symm
    have nb7_b6 : b7 ≠ b6 := fun e => by rw [e] at hn7; simp only [nb6_b12, nb6_b17, RR, seval, reduceCtorEq] at hn7
    have nb6_b7 : b6 ≠ b7 := fun e => nb7_b6 e.symm
    have nb7_b12 : b7 ≠ b12 := fun e => by rw [e] at hn7; simp only [nb12_b17, RR, seval, reduceCtorEq] at hn7
    have nb12_b7 : b12 ≠ b7 := fun e => nb7_b12 e.symm
    have nb7_b17 : b7 ≠ b17 := fun e => by rw [e] at hn7; simp only [RR, seval, reduceCtorEq] at hn7
    have nb17_b7 : b17 ≠ b7 := fun e => nb7_b17 e.symm
    simp only [nb7_b3, RR, seval]
    refine dC (by kernel_rfl) ?_
    simp only [RR, seval]
    refine hKR1 _ _ ⟨b7, b12, b17, rfl, rfl, rfl, ?_, ?_, ?_, ?_, ?_, nb7_b12, nb3_b6⟩ <;> first | rfl | (simp only [nb3_b6, nb3_b12, nb6_b12, nb3_b17, nb6_b17, nb12_b17, nb3_b7, nb6_b7, nb12_b7, nb17_b7, aG, seval]; done) | (simp only [nb6_b3, nb3_b6, nb12_b3, nb3_b12, nb12_b6, nb6_b12, nb17_b3, nb3_b17, nb17_b6, nb6_b17, nb17_b12, nb12_b17, nb7_b3, nb3_b7, nb7_b6, nb6_b7, nb7_b12, nb12_b7, nb7_b17, nb17_b7, e1, e3, hflx, hzl, hrowg, aD, aG, RR, seval]; rfl)
   simp only [RR, seval]
   refine aK fun b7 hn7 => ?_
   have nb7_b3 : b7 ≠ b3 := fun e => by rw [e] at hn7; simp only [nb3_b6, nb3_b12, RR, seval, reduceCtorEq] at hn7
   have nb3_b7 : b3 ≠ b7 := fun e => nb7_b3 e.symm
   have nb7_b6 : b7 ≠ b6 := fun e => by rw [e] at hn7; simp only [nb6_b12, RR, seval, reduceCtorEq] at hn7
   have nb6_b7 : b6 ≠ b7 := fun e => nb7_b6 e.symm
   have nb7_b12 : b7 ≠ b12 := fun e => by rw [e] at hn7; simp only [RR, seval, reduceCtorEq] at hn7
   have nb12_b7 : b12 ≠ b7 := fun e => nb7_b12 e.symm
   simp only [RR, seval]
   refine cM [(9, 1), (11, 1)] hd (m := 0) rfl (by kernel_rfl) rfl rfl ?_
   simp only [bW, RR, seval]
   refine aK fun b17 hn17 => ?_
   have nb17_b3 : b17 ≠ b3 := fun e => by rw [e] at hn17; simp only [nb3_b6, nb3_b12, nb3_b7, RR, seval, reduceCtorEq] at hn17
   have nb3_b17 : b3 ≠ b17 := fun e => nb17_b3 e.symm
   have nb17_b6 : b17 ≠ b6 := fun e => by rw [e] at hn17; simp only [nb6_b12, nb6_b7, RR, seval, reduceCtorEq] at hn17
   have nb6_b17 : b6 ≠ b17 := fun e => nb17_b6 e.symm
   have nb17_b12 : b17 ≠ b12 := fun e => by rw [e] at hn17; simp only [nb12_b7, RR, seval, reduceCtorEq] at hn17
   have nb12_b17 : b12 ≠ b17 := fun e => nb17_b12 e.symm
   have nb17_b7 : b17 ≠ b7 := fun e => by rw [e] at hn17; simp only [RR, seval, reduceCtorEq] at hn17
   have nb7_b17 : b7 ≠ b17 := fun e => nb17_b7 e.symm
   simp only [nb7_b3, nb7_b17, RR, seval]
   refine dC (by kernel_rfl) ?_
   simp only [RR, seval]
   refine hKR1 _ _ ⟨b7, b12, b17, rfl, rfl, rfl, ?_, ?_, ?_, ?_, ?_, nb7_b12, nb3_b6⟩ <;> first | rfl | (simp only [nb3_b6, nb3_b12, nb6_b12, nb3_b7, nb6_b7, nb12_b7, nb3_b17, nb6_b17, nb12_b17, nb17_b7, aG, seval]; done) | (simp only [nb6_b3, nb3_b6, nb12_b3, nb3_b12, nb12_b6, nb6_b12, nb7_b3, nb3_b7, nb7_b6, nb6_b7, nb7_b12, nb12_b7, nb17_b3, nb3_b17, nb17_b6, nb6_b17, nb17_b12, nb12_b17, nb17_b7, nb7_b17, e1, e3, hflx, hzl, hrowg, aD, aG, RR, seval]; rfl)
  simp only [RR, seval]
  refine aK fun b7 hn7 => ?_
  have nb7_b3 : b7 ≠ b3 := fun e => by rw [e] at hn7; simp only [nb3_b6, RR, seval, reduceCtorEq] at hn7
  have nb3_b7 : b3 ≠ b7 := fun e => nb7_b3 e.symm
  have nb7_b6 : b7 ≠ b6 := fun e => by rw [e] at hn7; simp only [RR, seval, reduceCtorEq] at hn7
  have nb6_b7 : b6 ≠ b7 := fun e => nb7_b6 e.symm
  simp only [RR, seval]
  refine cM [(4, 1), (8, 3), (9, 1), (11, 1)] hd (m := 0) rfl (by kernel_rfl) rfl rfl ?_
  simp only [bW, e1, RR, seval]
  refine aK fun b12 hn12 => ?_
  have nb12_b3 : b12 ≠ b3 := fun e => by rw [e] at hn12; simp only [nb3_b6, nb3_b7, RR, seval, reduceCtorEq] at hn12
  have nb3_b12 : b3 ≠ b12 := fun e => nb12_b3 e.symm
  have nb12_b6 : b12 ≠ b6 := fun e => by rw [e] at hn12; simp only [nb6_b7, RR, seval, reduceCtorEq] at hn12
  have nb6_b12 : b6 ≠ b12 := fun e => nb12_b6 e.symm
  have nb12_b7 : b12 ≠ b7 := fun e => by rw [e] at hn12; simp only [RR, seval, reduceCtorEq] at hn12
  have nb7_b12 : b7 ≠ b12 := fun e => nb12_b7 e.symm
  simp only [RR, seval]
  refine aK fun b17 hn17 => ?_
  have nb17_b3 : b17 ≠ b3 := fun e => by rw [e] at hn17; simp only [nb3_b6, nb3_b7, nb3_b12, RR, seval, reduceCtorEq] at hn17
  have nb3_b17 : b3 ≠ b17 := fun e => nb17_b3 e.symm
  have nb17_b6 : b17 ≠ b6 := fun e => by rw [e] at hn17; simp only [nb6_b7, nb6_b12, RR, seval, reduceCtorEq] at hn17
  have nb6_b17 : b6 ≠ b17 := fun e => nb17_b6 e.symm
  have nb17_b7 : b17 ≠ b7 := fun e => by rw [e] at hn17; simp only [nb7_b12, RR, seval, reduceCtorEq] at hn17
  have nb7_b17 : b7 ≠ b17 := fun e => nb17_b7 e.symm
  have nb17_b12 : b17 ≠ b12 := fun e => by rw [e] at hn17; simp only [RR, seval, reduceCtorEq] at hn17
  have nb12_b17 : b12 ≠ b17 := fun e => nb17_b12 e.symm
  simp only [nb7_b3, nb7_b12, nb7_b17, RR, seval]
  refine dC (by kernel_rfl) ?_
  simp only [RR, seval]
  refine hKR1 _ _ ⟨b7, b12, b17, rfl, rfl, rfl, ?_, ?_, ?_, ?_, ?_, nb7_b12, nb3_b6⟩ <;> first | rfl | (simp only [nb3_b6, nb3_b7, nb6_b7, nb3_b12, nb6_b12, nb12_b7, nb3_b17, nb6_b17, nb17_b7, nb12_b17, aG, seval]; done) | (simp only [nb6_b3, nb3_b6, nb7_b3, nb3_b7, nb7_b6, nb6_b7, nb12_b3, nb3_b12, nb12_b6, nb6_b12, nb12_b7, nb7_b12, nb17_b3, nb3_b17, nb17_b6, nb6_b17, nb17_b7, nb7_b17, nb17_b12, nb12_b17, e1, e3, hflx, hzl, hrowg, aD, aG, RR, seval]; rfl)
 rintro F1 M1 ⟨b7, b12, b17, f3, f6, f7, hb3, hb6, hb7, hb12, hb17, nb7_b12, nb3_b6⟩
 simp only [eM]
 refine hK _ _ ?_; clear hK K
 have nb12_b7 : b12 ≠ b7 := fun e => nb7_b12 e.symm
 have nb6_b3 : b6 ≠ b3 := fun e => nb3_b6 e.symm
 have nb3_b7 : b3 ≠ b7 := fun e => by rw [e, hb7] at hb3; cases hb3
 have nb3_b12 : b3 ≠ b12 := fun e => by rw [e, hb12] at hb3; cases hb3
 have nb3_b17 : b3 ≠ b17 := fun e => by rw [e, hb17] at hb3; cases hb3
 have nb6_b7 : b6 ≠ b7 := fun e => by rw [e, hb7] at hb6; cases hb6
 have nb6_b12 : b6 ≠ b12 := fun e => by rw [e, hb12] at hb6; cases hb6
 have nb6_b17 : b6 ≠ b17 := fun e => by rw [e, hb17] at hb6; cases hb6
 have nb7_b3 : b7 ≠ b3 := fun e => by rw [e, hb3] at hb7; cases hb7
 have nb7_b6 : b7 ≠ b6 := fun e => by rw [e, hb6] at hb7; cases hb7
 have nb7_b17 : b7 ≠ b17 := fun e => by rw [e, hb17] at hb7; cases hb7
 have nb12_b3 : b12 ≠ b3 := fun e => by rw [e, hb3] at hb12; cases hb12
 have nb12_b6 : b12 ≠ b6 := fun e => by rw [e, hb6] at hb12; cases hb12
 have nb12_b17 : b12 ≠ b17 := fun e => by rw [e, hb17] at hb12; cases hb12
 have nb17_b3 : b17 ≠ b3 := fun e => by rw [e, hb3] at hb17; cases hb17
 have nb17_b6 : b17 ≠ b6 := fun e => by rw [e, hb6] at hb17; cases hb17
 have nb17_b7 : b17 ≠ b7 := fun e => by rw [e, hb7] at hb17; cases hb17
 have nb17_b12 : b17 ≠ b12 := fun e => by rw [e, hb12] at hb17; cases hb17
 refine Jy (lo := 7) (caps := [.ptr 1 b7 0 0, .ptr 3 b6 0 0]) (Q := Jo (Kj cO 23 Bg [.ptr 1 b7 0 0, .ptr 3 b6 0 0] 5 [.cell 6 29] (Jc b6) (fun ae H' => ae = .ret (vA e out t) ∧ H' = qF))) (by simp only [List.map_cons, List.map_nil, f6, f7, RR, seval]) rfl (by decide) (by decide) (by decide) ?_ ?_
 rotate_left
 ·intro γ γ' e' a' w' g1 g2 g3 g4 hpin hl
  refine Nk (Ng := 23) (fn := Tryd.f10) (gfn := Tryd.f22) rfl Tryd.func22 rfl rfl rfl rfl (by decide) rfl rfl g1 g2 g3 g4 (fun hh S w tt => ?_) hl
  show bI S w (Jc b6 tt) _
  unfold Jc
  by_cases ht : tt = 6
  ·subst ht
   rw [bR, hh.2 6 (by decide), hpin 6 3 b6 0 0 (by decide) (by decide) (by simp only [f6, seval])]
   simp only [bI]
  rw [cG _ _ ht]
  simp only [bI]
 refine bG fun FS HS hfr hH => ?_
 have f3 : FS 3 = .ptr 2 b3 0 0 := (hfr 3).trans (by simp only [aG, f3, seval])
 have f6 : FS 6 = .ptr 3 b6 0 0 := (hfr 6).trans (by simp only [aG, f6, seval])
 have f7 : FS 7 = .ptr 1 b7 0 0 := (hfr 7).trans (by simp only [aG, f7, seval])
 have hb3 := (hH b3).trans hb3
 have hb6 := (hH b6).trans hb6
 have hb7 := (hH b7).trans hb7
 have hb12 := (hH b12).trans hb12
 have hb17 := (hH b17).trans hb17
 have hR : eN cx W b17 b12 ⟨List.replicate W 0, [], 0, [], 0⟩ .nsl HS := ⟨by rw [hcf, hci, ← hfl2]; simpa using hb17, by simpa [fE] using hb12, .inl ⟨rfl, rfl⟩, (fun _ _ h => by cases h), (fun x hx => by rw [List.eq_of_mem_replicate hx]; exact mF), by simp, Nat.zero_le _, Nat.zero_le _, by simp⟩
 have hR1 := hR.other nb7_b17 nb7_b12 (fun _ _ h => by cases h) none
 have hL := (hC b17 b12 n).L (c.funs.length - 1) g.body _ .nsl _ o hgb hgw hR1 hev
 clear hfr hH
 refine aB fun K hK => ?_
 refine bC (fun x => x ≠ b7) [(0, 1), (1, 3), (2, 1), (3, 3), (4, 1), (5, 3), (6, 3), (7, 3), (8, 3), (9, 1), (10, 1)] [] dB (by kernel_rfl) rfl rfl ?_
 simp only [bW, f3, f7, hb3, hb7, e3, hrowg, aD, RR, seval]
 refine Jz (b7 := b7) hL hb7 (fun b hb => hb) ?_ ?_
 ·intro e' s vo' H' he' hR' h7' ho7' hk'
  subst he'
  simp only [oN, Prod.mk.injEq] at hend
  obtain ⟨rfl, rfl, rfl⟩ := hend
  simp only [cL]
  exact Yb b7 b6 H' _ _ hR' h7' ho7' (hk' b6 _ hb6 nb6_b17 nb6_b12 (fun _ _ h => by cases h)) ⟨rfl, rfl⟩
 intro p s vo' H' he' hR' h7' ho7' hk'
 subst he'
 simp only [oN, Prod.mk.injEq] at hend
 obtain ⟨rfl, rfl, rfl⟩ := hend
 have hb6' := hk' b6 _ hb6 nb6_b17 nb6_b12 (fun _ _ h => by cases h)
 simp only [kL, RR, seval]
 refine hK _ _ ?_; clear hK K
 refine eN.seal hR' fun FT HT hft hr2 hk2 => ?_
 have f6 : FT 6 = .ptr 3 b6 0 0 := (hft 6 (by simp only [aG, f6, seval]; rfl)).trans (by simp only [aG, f6, seval])
 have f7 : FT 7 = .ptr 1 b7 0 0 := (hft 7 (by simp only [aG, f7, seval]; rfl)).trans (by simp only [aG, f7, seval])
 have hb7 := hk2 b7 _ _ nb7_b17 ho7' (fun r hr x hx => by simp only [List.mem_singleton] at hr; subst hr; simp only [List.mem_singleton] at hx; subst hx; rfl) h7'
 have hb6 := hk2 b6 _ _ nb6_b17 (hR'.o.offsz hb6' (by decide)) (fun r hr x hx => by simp only [List.mem_singleton] at hr; subst hr; simp only [List.mem_cons, List.not_mem_nil, or_false] at hx; rcases hx with rfl | rfl | rfl <;> rfl) hb6'
 have hb17 := hr2
 have hbb := pD s.out
 clear hk2 hft hr2 hk'
 refine aB fun K hK => ?_
 refine bC (fun x => x ≠ b6 ∧ x ≠ b7 ∧ x ≠ b17) [(0, 1), (1, 3), (2, 3), (3, 1), (4, 3), (5, 1), (6, 3), (7, 3), (8, 1), (9, 3)] [(10, 1)] dB (by kernel_rfl) rfl rfl ?_
 simp only [bW, f6, f7, hb6, hb7, hb17, hbb, RR, seval]
 refine hK _ _ ?_; clear hK K
 refine aP ?_
 exact Yc b7 b6 _ _ 1 s.out s.ticks (by first | exact bR _ _ _ | (simp only [aG, seval]; rfl)) ⟨rfl, rfl⟩
end Go.Proofs.YtnfbbjhdflhmjaaDoor
