/- SyntaxLevels: the law's contract. -/
import Derived.Test.YtgcncdjnipfolaaDoorGFw
set_option linter.unusedSimpArgs false
set_option linter.unusedVariables false
set_option maxRecDepth 10000
namespace Go.Al
def notE (n : Int) : Nat → Ex
  | 0 => .mk 1 0 n [] []
  | k + 1 => .mk 7 0 0 [] [notE n k]
def whS (e : Ex) : Nat → Sm
  | 0 => .mk 3 [] [e] [] []
  | k + 1 => .mk 5 [] [.mk 5 0 0 [] []] [whS e k] []
def rawX (n : Int) : Nat → List AV
  | 0 => [.int .i64 1, .int .i64 0, .int .u32 n, .str [], .nsl]
  | k + 1 => [.int .i64 7, .int .i64 0, .int .u32 0, .str [], .isl 5 [rawX n k]]
def rawS (e : List AV) : Nat → List AV
  | 0 => [.int .i64 3, .str [], .isl 5 [e], .nsl, .nsl]
  | k + 1 => [.int .i64 5, .str [], .isl 5 [[.int .i64 5, .int .i64 0, .int .u32 0, .str [], .nsl]], .isl 5 [rawS e k], .nsl]
theorem rawX_ex (n : Int) (k : Nat) : ∃ a b c d e, rawX n k = [a, b, c, d, e] ∧ one e = true := by
  cases k with
  | zero => exact ⟨_, _, _, _, _, rfl, rfl⟩
  | succ k => exact ⟨_, _, _, _, _, rfl, rfl⟩
theorem rawS_ex (n : List AV) (k : Nat) : ∃ a b c d e, rawS n k = [a, b, c, d, e] ∧ one c = true ∧ one d = true ∧ one e = true := by
  cases k with
  | zero => exact ⟨_, _, _, _, _, rfl, rfl, rfl, rfl⟩
  | succ k => exact ⟨_, _, _, _, _, rfl, rfl, rfl, rfl⟩
theorem rawX_sub (n : Int) : ∀ k, SubR (rawX n k) (notE n k).row
  | 0 => by
    rw [Ex.row_eq]
    exact .cons (Sub.refl _) (.cons (Sub.refl _) (.cons (Sub.refl _) (.cons (Sub.refl _) (.cons (Sub.nsl _) .nil))))
  | k + 1 => by
    rw [Ex.row_eq]
    exact .cons (Sub.refl _) (.cons (Sub.refl _) (.cons (Sub.refl _) (.cons (Sub.refl _) (.cons (Sub.isl (.cons (rawX_sub n k) .nil)) .nil))))
theorem rawS_sub {r : List AV} {e : Ex} (h : SubR r e.row) : ∀ k, SubR (rawS r k) (whS e k).row
  | 0 => by
    rw [Sm.row_eq]
    exact .cons (Sub.refl _) (.cons (Sub.refl _) (.cons (Sub.isl (.cons h .nil)) (.cons (Sub.nsl _) (.cons (Sub.nsl _) .nil))))
  | k + 1 => by
    rw [Sm.row_eq]
    refine .cons (Sub.refl _) (.cons (Sub.refl _) (.cons (Sub.isl (.cons ?_ .nil)) (.cons (Sub.isl (.cons (rawS_sub h k) .nil)) (.cons (Sub.nsl _) .nil))))
    rw [Ex.row_eq]
    exact .cons (Sub.refl _) (.cons (Sub.refl _) (.cons (Sub.refl _) (.cons (Sub.refl _) (.cons (Sub.nsl _) .nil))))
end Go.Al
namespace Go.Proofs.YtgcncdjnipfolaaDoor
open Go.Al
theorem notE_ok {n : Int} (hn : u32R n) : ∀ k, (notE n k).ok
  | 0 => ex_ok' 1 0 n (by simp [i64R]) (by simp [i64R]) hn (by simp [fitL]) okE_nil
  | k + 1 => ex_ok' 7 0 0 (by simp [i64R]) (by simp [i64R]) (by simp [u32R]) (by simp [fitL]) (okE_1 (notE_ok hn k))
theorem whS_ok {e : Ex} (he : e.ok) : ∀ k, (whS e k).ok
  | 0 => .mk _ _ _ _ _ (by simp [i64R]) (by simp [fitL]) (okE_1 he) (by simp [fitL]) (fun e h => by cases h) (by simp [fitL]) (fun e h => by cases h)
  | k + 1 => .mk _ _ _ _ _ (by simp [i64R]) (by simp [fitL]) (okE_1 (ex_ok' 5 0 0 (by simp [i64R]) (by simp [i64R]) (by simp [u32R]) (by simp [fitL]) okE_nil)) (by simp [fitL]) (fun x h => by rw [List.mem_singleton] at h; rw [h]; exact whS_ok he k) (by simp [fitL]) (fun e h => by cases h)
theorem notE_right (n : Int) : ∀ (k : Nat) (lv : Int), rightX (notE n k) lv = decide (lv + k ≤ 24)
  | 0, lv => by
    simp [notE, rightX, headX, kidsX, Ex.kind, Ex.op, Ex.num, Ex.name, Ex.kids, rightE_nil]
  | k + 1, lv => by
    rw [notE, rightX]
    simp only [Ex.kids, rightE_cons, rightE_nil, Bool.and_true, notE_right n k (lv + 1)]
    rw [Bool.eq_iff_iff]
    simp [headX, kidsX, Ex.kind, Ex.op, Ex.num, Ex.name]
    omega
theorem whS_right (n : Int) (k : Nat) : ∀ (j : Nat) (lv : Int), rightM (whS (notE n k) j) lv = decide (lv + j + 1 + k ≤ 24)
  | 0, lv => by
    rw [whS, rightM]
    simp only [Sm.es, Sm.thn, Sm.els, rightE_cons, rightE_nil, rightS_nil, Bool.and_true, notE_right n k (lv + 1)]
    rw [Bool.eq_iff_iff]
    simp [headS, fitS, Sm.kind, Sm.name, Sm.thn, Sm.els]
    omega
  | j + 1, lv => by
    rw [whS, rightM]
    simp only [Sm.es, Sm.thn, Sm.els, rightE_cons, rightE_nil, rightS_nil, rightS_cons, Bool.and_true, whS_right n k j (lv + 1)]
    rw [Bool.eq_iff_iff]
    simp [headS, fitS, Sm.kind, Sm.name, Sm.thn, Sm.els, rightX, headX, kidsX, Ex.kind, Ex.op, Ex.num, Ex.name, Ex.kids, rightE_nil]
    omega
def lvP (n : Int) (k j : Nat) : Pg := ⟨[], [], [⟨[109, 97, 105, 110], [], [], false, [whS (notE n k) j]⟩]⟩
theorem lvP_ok {n : Int} (hn : u32R n) (k j : Nat) : (lvP n k j).ok := by
  refine ⟨⟨by simp [lvP, fitL], fun s h => by cases h⟩, by simp [lvP, fitL], (fun a h => by cases h), by simp [lvP, fitL], fun f hf => ?_⟩
  simp only [lvP, List.mem_singleton] at hf
  subst hf
  exact ⟨by simp [fitL], ⟨by simp [fitL], (fun s h => by cases h)⟩, ⟨by simp [fitL], fun s h => by cases h⟩, ⟨by simp [fitL], fun s hs => by rw [List.mem_singleton] at hs; rw [hs]; exact whS_ok (notE_ok hn k) j⟩⟩
theorem main_name : nameB [109, 97, 105, 110] = true := by decide +kernel
theorem lvP_right (n : Int) (k j : Nat) : rightP (lvP n k j) = decide (1 + (j : Int) + 1 + k ≤ 24) := by
  simp only [rightP, rightF, lvP, List.all_cons, List.all_nil, rightS_cons, rightS_nil, whS_right, main_name, Bool.and_true, Bool.true_and]
  simp
theorem lvP_sub (n : Int) (k j : Nat) : SubL [.agg [.nsl, .nsl, .isl 5 [[.str [109, 97, 105, 110], .nsl, .nsl, .bool false, .isl 5 [rawS (rawX n k) j]]]]] [(lvP n k j).av] := by
  refine SubR.list (.cons ?_ .nil)
  simp only [Pg.av, Pg.row, lvP, List.map_nil, List.map_cons, Fu.row]
  exact Sub.aggR (.cons (Sub.nsl _) (.cons (Sub.nsl _) (.cons (Sub.isl (.cons (.cons (Sub.refl _) (.cons (Sub.nsl _) (.cons (Sub.nsl _) (.cons (Sub.refl _) (.cons (Sub.isl (.cons (rawS_sub (rawX_sub n k) j) .nil)) .nil))))) .nil)) .nil)))
theorem SyntaxLevels_con (a : Int) (ha : 0 ≤ a ∧ a ≤ 255) (c : Int) (hc : 0 ≤ c ∧ c ≤ 255) (n : Int) (hn0 : 0 ≤ n ∧ n ≤ 4294967295) : PCon env 8 [.int .u8 a, .int .u8 c, .int .u32 n] (.bool true) := by
  have hn : u32R n := ⟨hn0.1, by omega⟩
  obtain ⟨k, rfl⟩ : ∃ k : Nat, a = (k : Int) := ⟨a.toNat, by omega⟩
  obtain ⟨j, rfl⟩ : ∃ j : Nat, c = (j : Int) := ⟨c.toNat, by omega⟩
  have hR := pRight_con (lvP n k j) (lvP_ok hn k j)
  rw [lvP_right] at hR
  have hsb := lvP_sub n k j
  have w1 : IntKind.wrap .i64 (k : Int) = (k : Int) := IntWalk.i64_in _ (by omega)
  have w2 : IntKind.wrap .i64 (j : Int) = (j : Int) := IntWalk.i64_in _ (by omega)
  have w3 : IntKind.wrap .i64 ((k : Int) + (j : Int)) = (k : Int) + (j : Int) := IntWalk.i64_in _ (by omega)
  have w4 : IntKind.wrap .i64 ((k : Int) + (j : Int) + 2) = (k : Int) + (j : Int) + 2 := IntWalk.i64_in _ (by omega)
  have w5 : decide (1 + (j : Int) + 1 + k ≤ 24) = decide ((k : Int) + (j : Int) + 2 ≤ 24) := by congr 1; apply propext; omega
  rw [w5] at hR
  refine con_of 60 [.tmp 6] Tryd.func8 rfl rfl rfl rfl ?_
  refine awp_seq_k fun K hK => ?_
  refine awp_region rfl ?_
  simp only [w1, w2, w3, w4, RR, seval]
  refine hK _ _ ?_; clear hK K
  refine awp_seq ?_
  refine awp_seq_k fun K hK => ?_
  refine awp_region rfl ?_
  simp only [w1, w2, w3, w4, RR, seval]
  refine awpC_pure' (awake_con) ?_
  simp only [w1, w2, w3, w4, RR, seval]
  refine hK _ _ ?_; clear hK K
  refine awp_if _ rfl (fun hc1 => ?_) (fun hc1 => ?_)
  · simp at hc1
  · refine awp_skip ?_; try simp only [RR]
    refine awp_seq ?_
    refine awp_seq_k fun K hK => ?_
    refine awp_region rfl ?_
    simp only [w1, w2, w3, w4, RR, seval]
    repeat' ((first | refine awpG_splitN (fun h => ?_) (fun h => ?_) | refine awpG_split (fun h => ?_) (fun h => ?_)) <;> simp only [h, w1, w2, w3, w4, RR, seval])
    all_goals
      refine hK _ _ ?_; clear hK K
      refine awp_if _ rfl (fun hc3 => ?_) (fun hc3 => ?_)
      · try (cases hc3; done)
        all_goals
          refine awp_seq_k fun K hK => ?_
          refine awp_region rfl ?_
          simp only [w1, w2, w3, w4, RR, seval]
          refine hK _ _ ?_; clear hK K
          refine awp_ret ?_; simp only [bodyQ, aresult, ares, w1, w2, w3, w4, RR, seval]
          refine Gives.pure ?_
          rfl
      · try (cases hc3; done)
        all_goals
          skip
          refine awp_skip ?_; try simp only [RR]
          refine awp_seq_k fun K hK => ?_
          refine awp_region rfl ?_
          simp only [w1, w2, w3, w4, RR, seval]
          refine awpN_intro fun b7 hn7 => ?_
          simp only [w1, w2, w3, w4, RR, seval]
          refine hK _ _ ?_; clear hK K
          refine awp_seq ?_
          refine awp_seq_k fun K hK => ?_
          refine awp_region rfl ?_
          simp only [w1, w2, w3, w4, RR, seval]
          refine hK _ _ ?_; clear hK K
          refine awp_name fun F1 M1 hfr hH => ?_
          have g0 := hfr 0
          have g1 := hfr 1
          have g6 := hfr 6
          have g7 := hfr 7
          have g8 := hfr 8
          have gb7 := hH b7
          try simp only [w1, w2, w3, w4, RR, seval] at g0 g1 g6 g7 g8 gb7
          have f0 := g0; clear g0
          have f1 := g1; clear g1
          have f6 := g6; clear g6
          have f7 := g7; clear g7
          have f8 := g8; clear g8
          have hb7 := gb7; clear gb7
          clear hfr hH
          refine awp_block ?_
          refine awp_each [0, 1, 6, 7] (k) (fun m fr M => fr 8 = .int .i64 (m : Nat) ∧ M b7 = some (.rows 5 [rawX n m])) ⟨f8, hb7⟩ ?_
          rintro m F2 M2 hk0 ⟨fx, hb7⟩ agx K0 hK0
          have f0 := (agx 0 rfl).trans f0
          have f1 := (agx 1 rfl).trans f1
          have f6 := (agx 6 rfl).trans f6
          have f7 := (agx 7 rfl).trans f7
          have f8 := fx; clear fx
          have ag0 := agree.refl [0, 1, 6, 7] F2
          clear agx
          refine awp_seq ?_
          refine awp_seq_k fun K hK => ?_
          refine awp_region rfl ?_
          simp only [f0, f8, w1, w2, w3, w4, RR, seval]
          refine hK _ _ ?_; clear hK K
          refine awp_if _ rfl (fun hc => ?_) (fun hc => ?_)
          · have hlt0 : m < k := by have := of_decide_eq_true hc; omega
            clear hc
            obtain ⟨v1, v2, v3, v4, v5, hrx, ho⟩ := rawX_ex n m
            rw [hrx] at hb7
            refine awp_skip ?_; try simp only [RR]
            refine awp_seq ?_
            refine awp_block ?_
            refine awp_region rfl ?_
            simp only [f7, hb7, w1, w2, w3, w4, ho, RR, seval]
            refine awpB_sealed ?_
            simp only [f7, hb7, w1, w2, w3, w4, ho, RR, seval]
            refine awp_region rfl ?_
            simp only [f8, w1, w2, w3, w4, ho, RR, seval]
            try rw [IntWalk.i64_in _ (by omega)]
            refine hK0 _ _ hlt0 ⟨by first | rfl | (simp only [upd_app, seval]; rfl), by rw [rawX, hrx]; first | rfl | (simp only [upd_app, seval]; done)⟩ (by repeat (first | exact ag0 | refine agree.upd rfl ?_))
          · have hkn0 : m = k := by have := of_decide_eq_false hc; omega
            clear hc
            rw [hkn0] at hb7
            obtain ⟨v1, v2, v3, v4, v5, hrx, ho⟩ := rawX_ex n k
            rw [hrx] at hb7
            refine awp_exit ?_; simp only [RR, seval]
            refine awp_seq_k fun K hK => ?_
            refine awp_region rfl ?_
            simp only [f7, hb7, w1, w2, w3, w4, ho, RR, seval]
            refine awpB_sealed ?_
            simp only [f7, hb7, w1, w2, w3, w4, ho, RR, seval]
            refine awpN_intro fun b9 hn9 => ?_
            have nb9_b7 : b9 ≠ b7 := fun e => by rw [e] at hn9; simp only [hb7, RR, seval, reduceCtorEq] at hn9
            have nb7_b9 : b7 ≠ b9 := fun e => nb9_b7 e.symm
            simp only [f7, hb7, nb9_b7, nb7_b9, w1, w2, w3, w4, ho, RR, seval]
            refine hK _ _ ?_; clear hK K
            refine awp_seq ?_
            refine awp_seq_k fun K hK => ?_
            refine awp_region rfl ?_
            simp only [w1, w2, w3, w4, ho, RR, seval]
            refine hK _ _ ?_; clear hK K
            refine awp_name fun F3 M3 hfr hH => ?_
            have g0 := hfr 0
            have g1 := hfr 1
            have g6 := hfr 6
            have g9 := hfr 9
            have g10 := hfr 10
            have gb7 := hH b7
            have gb9 := hH b9
            try simp only [f0, f1, f6, f7, f8, hb7, nb9_b7, nb7_b9, w1, w2, w3, w4, ho, RR, seval] at g0 g1 g6 g9 g10 gb7 gb9
            have f0 := g0; clear g0
            have f1 := g1; clear g1
            have f6 := g6; clear g6
            have f9 := g9; clear g9
            have f10 := g10; clear g10
            have hb7 := gb7; clear gb7
            have hb9 := gb9; clear gb9
            clear hfr hH
            refine awp_block ?_
            refine awp_each [0, 1, 6, 9] (j) (fun m fr M => fr 10 = .int .i64 (m : Nat) ∧ M b7 = M3 b7 ∧ M b9 = some (.rows 5 [rawS (rawX n k) m])) ⟨f10, rfl, (by rw [rawS, hrx]; exact hb9)⟩ ?_
            rintro m F4 M4 hk2 ⟨fx, gb7, hb9⟩ agx K2 hK2
            have f0 := (agx 0 rfl).trans f0
            have f1 := (agx 1 rfl).trans f1
            have f6 := (agx 6 rfl).trans f6
            have f9 := (agx 9 rfl).trans f9
            have f10 := fx; clear fx
            have hb7 := gb7.trans hb7
            have ag2 := agree.refl [0, 1, 6, 9] F4
            have e2_b7 := gb7; clear gb7
            clear agx
            refine awp_seq ?_
            refine awp_seq_k fun K hK => ?_
            refine awp_region rfl ?_
            simp only [f1, f10, w1, w2, w3, w4, ho, RR, seval]
            refine hK _ _ ?_; clear hK K
            refine awp_if _ rfl (fun hc => ?_) (fun hc => ?_)
            · have hlt2 : m < j := by have := of_decide_eq_true hc; omega
              clear hc
              obtain ⟨u1, u2, u3, u4, u5, hrs, ho1, ho2, ho3⟩ := rawS_ex (rawX n k) m
              rw [hrs] at hb9
              refine awp_skip ?_; try simp only [RR]
              refine awp_seq ?_
              refine awp_block ?_
              refine awp_region rfl ?_
              simp only [f9, hb7, hb9, nb9_b7, nb7_b9, w1, w2, w3, w4, ho, ho1, ho2, ho3, RR, seval]
              refine awpB_sealed ?_
              simp only [f9, hb7, hb9, nb9_b7, nb7_b9, w1, w2, w3, w4, ho, ho1, ho2, ho3, RR, seval]
              refine awpB_sealed ?_
              simp only [f9, hb7, hb9, nb9_b7, nb7_b9, w1, w2, w3, w4, ho, ho1, ho2, ho3, RR, seval]
              refine awp_region rfl ?_
              simp only [f10, w1, w2, w3, w4, ho, ho1, ho2, ho3, RR, seval]
              try rw [IntWalk.i64_in _ (by omega)]
              refine hK2 _ _ hlt2 ⟨by first | rfl | (simp only [upd_app, seval]; rfl), (by first | exact e2_b7 | (simp only [nb9_b7, nb7_b9, upd_app, seval]; first | done | exact e2_b7)), by rw [rawS, hrs]; first | rfl | (simp only [upd_app, seval]; done)⟩ (by repeat (first | exact ag2 | refine agree.upd rfl ?_))
            · have hkn2 : m = j := by have := of_decide_eq_false hc; omega
              clear hc
              rw [hkn2] at hb9
              obtain ⟨u1, u2, u3, u4, u5, hrs, ho1, ho2, ho3⟩ := rawS_ex (rawX n k) j
              rw [hrs] at hb9 hsb
              refine awp_exit ?_; simp only [RR, seval]
              refine awp_seq_k fun K hK => ?_
              refine awp_region rfl ?_
              simp only [f9, hb7, hb9, nb9_b7, nb7_b9, w1, w2, w3, w4, ho, ho1, ho2, ho3, RR, seval]
              refine awpB_sealed ?_
              simp only [f9, hb7, hb9, nb9_b7, nb7_b9, w1, w2, w3, w4, ho, ho1, ho2, ho3, RR, seval]
              refine awpB_sealed ?_
              simp only [f9, hb7, hb9, nb9_b7, nb7_b9, w1, w2, w3, w4, ho, ho1, ho2, ho3, RR, seval]
              refine awpN_intro fun b11 hn11 => ?_
              have nb11_b7 : b11 ≠ b7 := fun e => by rw [e] at hn11; simp only [hb7, nb9_b7, nb7_b9, RR, seval, reduceCtorEq] at hn11
              have nb7_b11 : b7 ≠ b11 := fun e => nb11_b7 e.symm
              have nb11_b9 : b11 ≠ b9 := fun e => by rw [e] at hn11; simp only [hb9, nb9_b7, nb7_b9, RR, seval, reduceCtorEq] at hn11
              have nb9_b11 : b9 ≠ b11 := fun e => nb11_b9 e.symm
              simp only [f9, hb7, hb9, nb9_b7, nb7_b9, nb11_b7, nb7_b11, nb11_b9, nb9_b11, w1, w2, w3, w4, ho, ho1, ho2, ho3, RR, seval]
              refine hK _ _ ?_; clear hK K
              refine awp_seq_k fun K hK => ?_
              refine awp_region rfl ?_
              simp only [f0, f1, hb7, hb9, nb9_b7, nb7_b9, nb11_b7, nb7_b11, nb11_b9, nb9_b11, w1, w2, w3, w4, ho, ho1, ho2, ho3, RR, seval]
              refine awpC_pure hR hsb ?_
              simp only [f0, f1, hb7, hb9, nb9_b7, nb7_b9, nb11_b7, nb7_b11, nb11_b9, nb9_b11, w1, w2, w3, w4, ho, ho1, ho2, ho3, RR, seval]
              refine hK _ _ ?_; clear hK K
              refine awp_ret ?_; simp only [bodyQ, aresult, ares, f6, w1, w2, w3, w4, ho, ho1, ho2, ho3, RR, seval]
              refine Gives.pure ?_
              simp
end Go.Proofs.YtgcncdjnipfolaaDoor
