/- Chapter 18, the program's: a call. -/
import Derived.Test.YtlokndnkpleegaaM18k
set_option linter.unusedSimpArgs false
set_option linter.unusedVariables false
set_option maxRecDepth 10000
namespace Go.Al
theorem OwnB.keepS {cx : Cx} {br bv : Nat} {abs : List Nat} {st : RS} {vo vo' : AV} {H H' : Hp} {b bo : Nat} {rows : List (List AV)} (h : OwnB bv abs vo b rows H) (hr : RunH cx br bv abs st vo H) (hne : b ≠ bo) (hk : keepsS br bv abs vo vo' bo H H') : OwnB bv abs vo' b rows H' := by
  obtain ⟨g1, g2⟩ := hk b _ h.h (hr.nbr h.h) h.nv h.na h.nf hne
  exact ⟨g1, h.nv, h.na, g2⟩
theorem OwnB.other {bv : Nat} {abs : List Nat} {vo : AV} {H : Hp} {b bo : Nat} {rows : List (List AV)} (h : OwnB bv abs vo b rows H) (hne : b ≠ bo) (o : Option AObj) : OwnB bv abs vo b rows (upd H bo o) := ⟨by rw [upd_ne _ _ hne]; exact h.h, h.nv, h.na, h.nf⟩
theorem set_mid {α : Type} (a : List α) (x y : α) (c : List α) : (a ++ x :: c).set a.length y = a ++ y :: c := by
  induction a with
  | nil => rfl
  | cons z a ih => simp [ih]
end Go.Al
namespace Go.Proofs.Ytlokndnkpleegaa
open Go.Al
theorem awpC_S {F : Nat → Prop} {ds : List (Option Nat)} {Q : APost} {d : Option Nat} {rest : List Oper} {fr : Fr} {H : Hp} {g : FuncId} {args : List AV} {cx : Cx} {br bv : Nat} {abs : List Nat} {vo : AV} {bo n : Nat} {r : Rz (Option Int × List Int)}
    (hc : Con env g args H (postS cx br bv abs vo bo n H r)) (hF : ∀ b, F b)
    (hp : ∀ e s vo' H', r = .fin e s → RunH cx br bv abs s vo' H' → keepsS br bv abs vo vo' bo H H' → Q (.pan (endV e)) frU H')
    (hv : ∀ p s vo' H', r = .val p s → u32R (p.1.getD 0) → p.2.length = n → (∀ x ∈ p.2, u32R x) → OwnB bv abs vo' bo (p.2.map rowU) H' → RunH cx br bv abs s vo' H' → keepsS br bv abs vo vo' bo H H' → awpL env F ds Q rest (putF fr d (.tup [.int .u32 (p.1.getD 0), .bool p.1.isSome])) H') : awpC env F ds Q d rest fr H g args := by
  refine awpC_run hc hF fun ae H' ⟨vo', h1, h2, h3⟩ => ?_
  cases r with
  | val p s =>
    obtain ⟨h1, h4, h5, h6, h7⟩ := h1
    subst h1
    exact hv p s vo' H' rfl h4 h5 h6 h7 h2 h3
  | fin e s =>
    subst h1
    exact hp e s vo' H' rfl h2 h3
section
variable {cx : Cx} {r v : Nat} {abs : List Nat} {n : Nat}
/-- what is left of a call when some arguments have their values -/
def restC (cx : Cx) (n : Nat) (f : Cf) (len : Nat) (vs : List Int) (st : RS) : Option (Rz Int) :=
  bindR (some (tickR cx st)) fun _ st => bindR (evL cx n f.res (vs ++ List.replicate (f.words - len) 0) f.body st) fun r st => some (.val (r.1.getD 0) st)
set_option maxHeartbeats 2000000 in
theorem call_step (ih : PrgC cx r v abs n) (hx : CxOk cx) (rs : Str → Bool × Int) (ow : List Int) (i : Int) (f : Cf) (l : List Ex) (st : RS) (vo : AV) (H : Hp) (bo : Nat) (o : Rz Int) (hl : okE l) (h0 : 0 ≤ i) (hf : cx.funs[i.toNat]? = some f) (hR : RunH cx r v abs st vo H) (hO : OwnB v abs vo bo (ow.map rowU) H) (hu : ∀ x ∈ ow, u32R x) (h : evC cx (n + 1) rs ow i l st = some o) :
    Con env 69 [.ptr 8 r 0 0, .ipt f.row 0, .isl 6 (l.map (cE rs)), .osl 1 bo ow.length] H (postG cx r v abs vo H (fun x => .int .u32 x) u32R o) := by
  simp only [evC, if_neg (show ¬ i < 0 by omega), hf] at h
  by_cases hw : f.words < l.length
  · rw [if_pos hw] at h; cases h
  rw [if_neg hw] at h
  have hwords := hx.words f (List.mem_of_getElem? hf)
  have hbody := hx.body f (List.mem_of_getElem? hf)
  have hfit := hl.fit
  simp only [fitL] at hfit
  have hfr : f.row = [.int .i64 f.words, .isl 6 (f.body.map (cS f.res))] := rfl
  rw [hfr]
  have e1 : (4 : Int) * (f.words : Int) ≤ 281474976710656 := by omega
  have hA : ∃ ra, evA cx n rs ow l st = some ra ∧ bindR (some ra) (fun vs s => restC cx n f l.length vs s) = some o := by
    cases hA : evA cx n rs ow l st with
    | none => rw [hA] at h; cases h
    | some ra => rw [hA] at h; exact ⟨ra, rfl, h⟩
  clear h
  obtain ⟨ra, hA, h⟩ := hA
  obtain ⟨HX, hHX⟩ : ∃ X, X = H := ⟨_, rfl⟩
  have hlen := fun a b (h : evA cx n rs ow a st = some b) => h
  refine con_of 46 [.tmp 8] Try.func69 rfl rfl rfl rfl ?_
  refine awp_seq_k fun K hK => ?_
  refine awp_region rfl ?_
  simp only [e1, List.length_map, RR, seval]
  refine hK _ _ ?_; clear hK K
  refine awp_seq_k fun K hK => ?_
  refine awp_region rfl ?_
  simp only [e1, List.length_map, RR, seval]
  refine awpN_intro fun b17 hn17 => ?_
  simp only [e1, List.length_map, RR, seval]
  refine hK _ _ ?_; clear hK K
  refine awp_seq ?_
  refine awp_seq_k fun K hK => ?_
  refine awp_region rfl ?_
  simp only [e1, List.length_map, RR, seval]
  refine hK _ _ ?_; clear hK K
  refine awp_name fun F1 M1 hfr hH => ?_
  have g0 := hfr 0
  have g1 := hfr 1
  have g2 := hfr 2
  have g3 := hfr 3
  have g8 := hfr 8
  have g9 := hfr 9
  have g19 := hfr 19
  have g20 := hfr 20
  have gb17 := hH b17
  try simp only [e1, List.length_map, RR, seval] at g0 g1 g2 g3 g8 g9 g19 g20 gb17
  have hM := funext hH
  have hn := hn17
  have hne : bo ≠ b17 := fun e => by have := hO.h; rw [e, hn] at this; cases this
  have hRM : RunH cx r v abs st vo M1 := by rw [hM]; exact hR.new hn17 _
  have hOM := hO.new hn17 (some (.rows 1 (List.replicate f.words [.int .u32 0])))
  have hWM := hR.fresh hn17 (List.replicate f.words [.int .u32 0])
  rw [← hM] at hOM hWM
  have hkM : keepsS r v abs vo vo b17 (upd HX b17 (some (.rows 1 (List.replicate f.words [.int .u32 0])))) M1 := by rw [hM, hHX]; exact (keepsR.refl _ _ _ _ _).s _
  have f0 := g0; clear g0
  have f1 := g1; clear g1
  have f2 := g2; clear g2
  have f3 := g3; clear g3
  have f8 := g8; clear g8
  have f9 := g9; clear g9
  have f19 := g19; clear g19
  have f20 := g20; clear g20
  have hb17 := gb17; clear gb17
  clear hfr hH
  refine awp_block ?_
  refine awp_each [0, 1, 2, 3, 8, 9, 19] (l.length) (fun k fr M => fr 20 = .int .i64 (k : Nat) ∧ ∃ stk vok vs m rk, m ≤ n ∧ vs.length = k ∧ (∀ x ∈ vs, u32R x) ∧ evA cx m rs ow (l.drop k) stk = some rk ∧ bindR (some rk) (fun vs' s => restC cx n f l.length (vs ++ vs') s) = some o ∧ RunH cx r v abs stk vok M ∧ OwnB v abs vok b17 ((vs ++ List.replicate (f.words - k) 0).map rowU) M ∧ OwnB v abs vok bo (ow.map rowU) M ∧ keepsS r v abs vo vok b17 (upd HX b17 (some (.rows 1 (List.replicate f.words [.int .u32 0])))) M) ⟨f20, st, vo, [], n, ra, Nat.le_refl _, rfl, (fun x hx => by simp at hx), hA, (by simpa using h), hRM, (by simpa [rowU] using hWM), hOM, hkM⟩ ?_
  rintro k F2 M2 hk0 ⟨fx, ⟨stk, vok, vs, m, rk, hmn, hvs, huv, hAk, hk, hRk, hOw, hOo, hkp⟩⟩ agx K0 hK0
  have f0 := (agx 0 rfl).trans f0
  have f1 := (agx 1 rfl).trans f1
  have f2 := (agx 2 rfl).trans f2
  have f3 := (agx 3 rfl).trans f3
  have f8 := (agx 8 rfl).trans f8
  have f9 := (agx 9 rfl).trans f9
  have f19 := (agx 19 rfl).trans f19
  have f20 := fx; clear fx
  have ag0 := agree.refl [0, 1, 2, 3, 8, 9, 19] F2
  clear agx
  clear h hA
  refine awp_seq_k fun K hK => ?_
  refine awp_region rfl ?_
  simp only [f19, f20, e1, List.length_map, RR, seval]
  refine hK _ _ ?_; clear hK K
  refine awp_seq ?_
  refine awp_if _ rfl (fun hc => ?_) (fun hc => ?_)
  · have hlt0 : k < l.length := by have := of_decide_eq_true hc; omega
    clear hc
    have hg0 := List.getElem?_eq_getElem hlt0
    have hdk : l.drop k = l[k] :: l.drop (k + 1) := List.drop_eq_getElem_cons hlt0
    generalize l[k] = a at hg0 hdk
    have hg := cE_get (rs := rs) hg0
    rw [hdk] at hAk
    obtain ⟨m', rfl⟩ : ∃ m', m = m' + 1 := by
      cases m with
      | zero => simp [evA] at hAk
      | succ m' => exact ⟨m', rfl⟩
    simp only [evA] at hAk
    obtain ⟨r1, h1⟩ : ∃ r1, evE cx m' rs ow a stk = some r1 := by
      cases h1 : evE cx m' rs ow a stk with
      | none => rw [h1] at hAk; cases hAk
      | some r1 => exact ⟨r1, rfl⟩
    rw [h1] at hAk
    have zk : (k : Int) < (f.words : Int) := by omega
    have hrep : List.replicate (f.words - k) (0 : Int) = 0 :: List.replicate (f.words - (k + 1)) 0 := by
      rw [show f.words - k = (f.words - (k + 1)) + 1 by omega]; rfl
    have hset : ∀ x : Int, ((vs ++ List.replicate (f.words - k) 0).map rowU).set k [.int .u32 x] = ((vs ++ [x]) ++ List.replicate (f.words - (k + 1)) 0).map rowU := fun x => by
      rw [hrep, map_set_U]
      have := set_mid vs (0 : Int) x (List.replicate (f.words - (k + 1)) 0)
      rw [hvs] at this
      rw [this]
      simp
    have hz : ((vs ++ List.replicate (f.words - k) 0).map rowU)[k]? = some [.int .u32 0] := by
      rw [hrep, List.getElem?_map, List.getElem?_append_right (by omega), hvs, Nat.sub_self]; rfl
    generalize hrw : (vs ++ List.replicate (f.words - k) 0).map rowU = rws at hset hz hOw
    refine awp_skip ?_; try simp only [RR]
    refine awp_seq ?_
    refine awp_block ?_
    refine awp_seq_k fun K hK => ?_
    refine awp_region rfl ?_
    simp only [f20, e1, List.length_map, hg, zk, hz, RR, seval]
    refine hK _ _ ?_; clear hK K
    refine awp_region rfl ?_
    simp only [f0, f2, f3, f9, e1, List.length_map, hg, zk, hz, RR, seval]
    refine awpC_G (ih.V rs ow a stk vok _ bo r1 (hl.all _ (List.mem_of_getElem? hg0)) hRk hOo hu (evE_deep (by omega) h1)) (fun _ => trivial) ?_ ?_
    · rintro e s vo1 H1 e1 hR1 hk1
      subst e1
      obtain rfl := Option.some.inj (show some (Rz.fin e s) = some rk from hAk)
      obtain rfl := Option.some.inj (show some (Rz.fin e s) = some o from hk)
      simp only [thenQ_pan, blockQ_pan, bodyQ_pan]
      have hkk := hkp.trans (hk1.s b17)
      rw [hHX] at hkk
      exact ⟨vo1, rfl, hR1, keepsS.new hn hkk⟩
    intro x s1 vo1 H1 e1 ux hR1 hk1
    subst e1
    simp only [bindR] at hAk
    have hOw1 := hOw.keep hRk hk1
    have hOo1 := hOo.keep hRk hk1
    have hb17 := hOw1.h
    obtain ⟨r', h2⟩ : ∃ r', evA cx m' rs ow (l.drop (k + 1)) s1 = some r' := by
      cases h2 : evA cx m' rs ow (l.drop (k + 1)) s1 with
      | none => rw [h2] at hAk; cases hAk
      | some r' => exact ⟨r', rfl⟩
    rw [h2] at hAk
    have hk' : bindR (some r') (fun vs' s => restC cx n f l.length ((vs ++ [x]) ++ vs') s) = some o := by
      cases r' with
      | fin e s =>
        obtain rfl := Option.some.inj (show some (Rz.fin e s) = some rk from hAk)
        exact hk
      | val vs' s =>
        obtain rfl := Option.some.inj (show some (Rz.val (x :: vs') s) = some rk from hAk)
        simpa [bindR] using hk
    simp only [hb17, f0, f1, f2, f3, f8, f9, f19, f20, e1, List.length_map, hg, zk, hz, RR, seval]
    have hst := hset x
    refine awp_region rfl ?_
    simp only [f20, e1, List.length_map, hg, zk, hz, RR, seval]
    try rw [IntWalk.i64_in _ (by omega)]
    refine hK0 _ _ hlt0 ⟨by first | rfl | (simp only [upd_app, seval]; rfl), s1, vo1, vs ++ [x], m', r', (by omega), (by simp [hvs]), (fun y hy => by rcases List.mem_append.1 hy with hy | hy; exact huv y hy; rw [List.mem_singleton.1 hy]; exact ux), h2, hk', hR1.own hOw1 _, (by rw [← hst]; exact hOw1.set), hOo1.other hne _, (hkp.trans (hk1.s b17)).set _⟩ (by repeat (first | exact ag0 | refine agree.upd rfl ?_))
  · have hkn0 : k = l.length := by have := of_decide_eq_false hc; omega
    clear hc
    rw [hkn0, List.drop_length] at hAk
    rw [hkn0] at hvs hOw
    have hk2 : restC cx n f l.length vs stk = some o := by
      cases m with
      | zero => simp [evA] at hAk
      | succ m' =>
        simp only [evA, Option.some.injEq] at hAk
        subst hAk
        simpa [bindR] using hk
    clear hk hAk
    unfold restC at hk2
    have huw : ∀ x ∈ vs ++ List.replicate (f.words - l.length) 0, u32R x := fun x hx => by
      rcases List.mem_append.1 hx with hx | hx
      · exact huv x hx
      · rw [(List.mem_replicate.1 hx).2]; simp [u32R]
    have hlw : (vs ++ List.replicate (f.words - l.length) 0).length = f.words := by simp [hvs]; omega
    generalize vs ++ List.replicate (f.words - l.length) 0 = ws at hk2 hOw huw hlw
    have hT := tick_con hx hRk
    generalize hTT : tickR cx stk = tt at hk2 hT
    refine awp_exit ?_; simp only [RR, seval]
    refine awp_seq_k fun K hK => ?_
    refine awp_region rfl ?_
    simp only [f0, e1, List.length_map, RR, seval]
    refine awpC_G hT (fun _ => trivial) ?_ ?_
    · rintro e s vo1 H1 e1 hR1 hk1
      subst e1
      obtain rfl := Option.some.inj (show some (Rz.fin e s) = some o from hk2)
      simp only [thenQ_pan, blockQ_pan, bodyQ_pan]
      have hkk := hkp.trans (hk1.s b17)
      rw [hHX] at hkk
      exact ⟨vo1, rfl, hR1, keepsS.new hn hkk⟩
    intro _ s1 vo1 H1 e1 _ hR1 hk1
    subst e1
    simp only [bindR] at hk2
    have hOw1 := hOw.keep hRk hk1
    obtain ⟨r2, h2⟩ : ∃ r2, evL cx n f.res ws f.body s1 = some r2 := by
      cases h2 : evL cx n f.res ws f.body s1 with
      | none => rw [h2] at hk2; cases hk2
      | some r2 => exact ⟨r2, rfl⟩
    rw [h2] at hk2
    have hL := ih.L f.res ws f.body s1 vo1 H1 b17 r2 hbody hR1 hOw1 huw h2
    rw [hlw] at hL
    simp only [RR, seval]
    refine hK _ _ ?_; clear hK K
    refine awp_seq_k fun K hK => ?_
    refine awp_region rfl ?_
    simp only [f0, f1, f9, e1, List.length_map, RR, seval]
    refine awpC_S hL (fun _ => trivial) ?_ ?_
    · rintro e s vo2 H2 e1 hR2 hk2'
      subst e1
      obtain rfl := Option.some.inj (show some (Rz.fin e s) = some o from hk2)
      simp only [thenQ_pan, blockQ_pan, bodyQ_pan]
      have hkk := (hkp.trans (hk1.s b17)).trans hk2'
      rw [hHX] at hkk
      exact ⟨vo2, rfl, hR2, keepsS.new hn hkk⟩
    intro p s2 vo2 H2 e1 up _ _ _ hR2 hk2'
    subst e1
    obtain rfl := Option.some.inj (show some (Rz.val (p.1.getD 0) s2) = some o from hk2)
    have hkk := (hkp.trans (hk1.s b17)).trans hk2'
    rw [hHX] at hkk
    simp only [RR, seval]
    refine hK _ _ ?_; clear hK K
    refine awp_seq_k fun K hK => ?_
    refine awp_region rfl ?_
    simp only [e1, List.length_map, RR, seval]
    refine hK _ _ ?_; clear hK K
    refine awp_ret ?_; simp only [bodyQ, aresult, ares, f8, e1, List.length_map, RR, seval]
    exact Gives.run ⟨vo2, ⟨rfl, up⟩, hR2, keepsS.new hn hkk⟩
    skip
end
end Go.Proofs.Ytlokndnkpleegaa
