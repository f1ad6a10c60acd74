/- Chapter 18: MeaningValues. -/
import Derived.Test.YtlokndnkpleegaaMj4
import Derived.Test.YtlokndnkpleegaaAlSf
set_option linter.unusedSimpArgs false
set_option linter.unusedVariables false
set_option maxRecDepth 10000
namespace Go.Al
/-- a byte of the variable is put out -/
def outA (k : Nat) : Sm := putS (opX 13 (nameX [97]) (numX (8 * (k : Int))))
def byA (v : Int) (k : Nat) : UInt8 := UInt8.ofNat (IntKind.wrap .u8 (v.fdiv (2 ^ (8 * k)))).toNat
def stA (v : Int) (out : Str) : RS := ⟨[v], [], 0, out, 0⟩
theorem out_ev {cx : Cx} {rs : Str → Bool × Int} (hrs : rs [97] = (false, 0)) (n : Nat) (ow : List Int) (v : Int) (k : Nat) (hk : k < 4) (out : Str) (hl : out.length < 65536) : evS cx (n + 4) rs ow (outA k) (stA v out) = some (.val (none, ow) (stA v (out ++ [byA v k]))) := by
  have ha : applyI 13 v (8 * (k : Int)) = (v.fdiv (2 ^ (8 * k)), 0) := by
    show (if 31 < (8 * (k : Int)) then ((0 : Int), (0 : Int)) else (v.fdiv (2 ^ (min ((8 * (k : Int))).toNat 32)), 0)) = _
    rw [if_neg (by omega), show min ((8 * (k : Int))).toNat 32 = 8 * k by omega]
  simp only [outA, putS, opX, nameX, numX, evS, evE, lookR, hrs, stA, bindR, putR, byA, ha, List.getElem?_cons_zero, List.getElem?_cons_succ, if_true, if_false, Option.map_some, show ¬ (3 : Int) = 1 by decide, show ¬ (3 : Int) = 2 by decide, show ¬ (6 : Int) = 1 by decide, show ¬ (6 : Int) = 2 by decide, show ¬ (6 : Int) = 3 by decide, show ¬ (6 : Int) = 4 by decide, show ¬ (6 : Int) = 5 by decide, show ¬ (6 : Int) = 7 by decide, show ¬ (2 : Int) = 1 by decide, show (0 : Int) ≤ 0 by decide, Bool.false_eq_true, Int.toNat_zero, if_neg (show ¬ 65536 ≤ out.length by omega)]
def outsA : List Sm := [outA 0, outA 1, outA 2, outA 3]
theorem outs_ev {cx : Cx} {rs : Str → Bool × Int} (hrs : rs [97] = (false, 0)) (n : Nat) (ow : List Int) (v : Int) : evL cx (n + 9) rs ow outsA (stA v []) = some (.val (none, ow) (stA v [byA v 0, byA v 1, byA v 2, byA v 3])) := by
  have h := fun (j m : Nat) (k : Nat) hk out hl => out_ev (cx := cx) hrs (n + m) ow v k hk out hl
  rw [outsA, show n + 9 = (n + 8) + 1 by omega, evL, show n + 8 = (n + 4) + 4 by omega, h 0 4 0 (by omega) [] (by simp)]
  simp only [bindR]
  rw [show n + 4 + 4 = (n + 3 + 4) + 1 by omega, evL, h 0 3 1 (by omega) _ (by simp)]
  simp only [bindR]
  rw [show n + 3 + 4 = (n + 2 + 4) + 1 by omega, evL, h 0 2 2 (by omega) _ (by simp)]
  simp only [bindR]
  rw [show n + 2 + 4 = (n + 1 + 4) + 1 by omega, evL, h 0 1 3 (by omega) _ (by simp)]
  simp only [bindR]
  rw [show n + 1 + 4 = (n + 4) + 1 by omega, evL]
  rfl
theorem setA_ev {cx : Cx} {rs : Str → Bool × Int} (hrs : rs [97] = (false, 0)) (n : Nat) (ow : List Int) (e : Ex) (v : Int) (h : evE cx n rs ow e (stA 0 []) = some (.val v (stA 0 []))) : evS cx (n + 1) rs ow (setS [97] e) (stA 0 []) = some (.val (none, ow) (stA v [])) := by
  simp only [setS, evS, if_true, List.getElem?_cons_zero, h, bindR, setR, hrs]
  rfl
theorem setF_ev {cx : Cx} {rs : Str → Bool × Int} (n : Nat) (ow : List Int) (e : Ex) (h : evE cx n rs ow e (stA 0 []) = some (.fin 2 (stA 0 []))) : evS cx (n + 1) rs ow (setS [97] e) (stA 0 []) = some (.fin 2 (stA 0 [])) := by
  simp only [setS, evS, if_true, List.getElem?_cons_zero, h, bindR]
theorem wm32' (n : Int) : IntKind.wrap .u32 n = n % 4294967296 := by simp [IntKind.wrap, IntKind.signed, IntKind.bits]
theorem wrap_in' {n : Int} (h0 : 0 ≤ n) (h1 : n ≤ 4294967295) : IntKind.wrap .u32 n = n := by rw [wm32']; omega
def valP (e : Ex) : Pg := progP [97] (setS [97] e :: outsA)
theorem outA_row (k : Nat) : (outA k).row = [.int .i64 3, .str [], .isl 5 [[.int .i64 6, .int .i64 13, .int .u32 0, .str [], .isl 5 [[.int .i64 2, .int .i64 0, .int .u32 0, .str [97], .isl 5 []], [.int .i64 1, .int .i64 0, .int .u32 (8 * (k : Int)), .str [], .isl 5 []]]]], .isl 5 [], .isl 5 []] := by
  rw [Sm.row_eq, outA, putS, opX, nameX, numX]; simp only [Sm.kind, Sm.name, Sm.es, Sm.thn, Sm.els, List.map_cons, List.map_nil, Ex.row, rowsE]
end Go.Al
namespace Go.Proofs.Ytlokndnkpleegaa
open Go.Al
theorem valP_rs (e : Ex) : (cfP (outP (valP e)) ⟨mainN, [], [], false, setS [97] e :: outsA⟩).res [97] = (false, 0) := by
  show rsP (outP (valP e)) (inP ⟨mainN, [], [], false, setS [97] e :: outsA⟩) [97] = (false, 0)
  have h1 : inP ⟨mainN, [], [], false, setS [97] e :: outsA⟩ = [] := rfl
  have h2 : outP (valP e) = outP (progP [97] []) := rfl
  rw [h1, h2]
  decide +kernel
theorem val_run (n : Nat) (e : Ex) (p : Int × Int) (level : Int) (hr : rightX e level = true) (hx : plX e = true) (hp : valX n e = some p) : runR (cxP (valP e) [] 0) (n + 12) (valP e).vars.length ((valP e).arrs.map fun a => a.size.toNat) = some (if p.2 = 0 then (1, [byA p.1 0, byA p.1 1, byA p.1 2, byA p.1 3], 0) else (2, [], 0)) := by
  have hrs := valP_rs e
  have hv := val_ev (cxP (valP e) [] 0) (cfP (outP (valP e)) ⟨mainN, [], [], false, setS [97] e :: outsA⟩).res [] (stA 0 []) n e level p hr hx hp
  obtain ⟨rs, hrd⟩ : ∃ rs, rs = (cfP (outP (valP e)) ⟨mainN, [], [], false, setS [97] e :: outsA⟩).res := ⟨_, rfl⟩
  rw [← hrd] at hrs hv
  have key : ∃ o, evL (cxP (valP e) [] 0) (n + 12) rs [] (setS [97] e :: outsA) (stA 0 []) = some o ∧ endR o = if p.2 = 0 then (1, [byA p.1 0, byA p.1 1, byA p.1 2, byA p.1 3], 0) else (2, [], 0) := by
    rw [show n + 12 = (n + 10 + 1) + 1 by omega, evL]
    by_cases hz : p.2 = 0
    · have h1 := evE_deep (show n ≤ n + 10 by omega) (hv.1 hz)
      rw [setA_ev hrs (n + 10) [] e p.1 h1]
      simp only [bindR]
      rw [show n + 10 + 1 = (n + 2) + 9 by omega, outs_ev hrs, if_pos hz]
      exact ⟨_, rfl, rfl⟩
    · have h1 := evE_deep (show n ≤ n + 10 by omega) (hv.2 hz).2
      rw [setF_ev (n + 10) [] e h1, if_neg hz]
      exact ⟨_, rfl, rfl⟩
  obtain ⟨o, h1, h2⟩ := key
  subst hrd
  unfold runR
  exact (congrArg (Option.map endR) h1).trans (by rw [← h2]; rfl)
theorem valP_sz (e : Ex) : szS (setS [97] e :: outsA) = e.sz + 17 := by
  simp [outsA, outA, setS, putS, opX, nameX, numX, szS, Sm.sz, szE, Ex.sz]; omega
theorem outA_ok (k : Nat) (hk : k < 4) : (outA k).ok := putS_ok (opX_ok (by simp [i64R]) (nameX_ok (by simp [fitL])) (numX_ok (by simp only [u32R]; omega)))
theorem valP_ok {e : Ex} (he : e.ok) (hs : e.sz ≤ 60) : RunOk (valP e) := by
  refine progP_ok (by simp [fitL]) (by decide) ⟨by simp [fitL, outsA], fun x hx => ?_⟩ (by rw [valP_sz]; omega)
  simp only [outsA, List.mem_cons, List.not_mem_nil, or_false] at hx
  rcases hx with rfl | rfl | rfl | rfl | rfl
  · exact setS_ok (by simp [fitL]) he
  · exact outA_ok 0 (by omega)
  · exact outA_ok 1 (by omega)
  · exact outA_ok 2 (by omega)
  · exact outA_ok 3 (by omega)
theorem valP_few {e : Ex} (he : e.ok) (hs : e.sz ≤ 60) : (valP e).few := by
  have h := valP_ok he hs
  exact ⟨h.ok, h.v, h.a, h.f, h.fs⟩
theorem setP_ok {e : Ex} (he : e.ok) : (progP [97] [setS [97] e]).ok := by
  refine ⟨⟨by simp [progP, fitL], fun s hs => ?_⟩, by simp [progP, fitL], (fun a h => by cases h), by simp [progP, fitL], fun f hf => ?_⟩
  · simp only [progP, List.mem_singleton] at hs; subst hs; simp [fitL]
  · simp only [progP, List.mem_singleton] at hf
    subst hf
    exact ⟨by simp [mainN, fitL], ⟨by simp [fitL], (fun s h => by cases h)⟩, ⟨by simp [fitL], fun s h => by cases h⟩, okS_1 (setS_ok (by simp [fitL]) he)⟩
theorem setP_right {e : Ex} (h : rightP (progP [97] [setS [97] e]) = true) : rightX e 2 = true := by
  simp only [rightP, progP, List.all_cons, List.all_nil, Bool.and_true, Bool.and_eq_true, rightF] at h
  have h2 := h.2.2
  rw [rightS_cons, Bool.and_eq_true] at h2
  have h3 := h2.1
  simp only [rightM, Bool.and_eq_true] at h3
  have h4 := h3.1.1.2
  have h5 : rightE [e] (1 + 1) = true := h4
  rw [rightE_cons, Bool.and_eq_true] at h5
  exact h5.1
set_option maxHeartbeats 8000000 in
theorem MeaningValues_con (e : Ex) (he : e.ok) : PCon env 8 [.agg e.row] (.bool true) := by
  have hset := lset_con [97] e
  have hp1 := lprog_con [97] [setS [97] e]
  have hR := Right_con (progP [97] [setS [97] e]) (setP_ok he) (fun f hf => by simp only [progP, List.mem_singleton] at hf; subst hf; simp)
  have hsr : (setS [97] e).row = [.int .i64 1, .str [97], .isl 5 [[.int .i64 e.kind, .int .i64 e.op, .int .u32 e.num, .str e.name, .isl 5 (e.kids.map Ex.row)]], .isl 5 [], .isl 5 []] := by
    rw [Sm.row_eq, setS]; simp only [Sm.kind, Sm.name, Sm.es, Sm.thn, Sm.els, List.map_cons, List.map_nil]; rw [e.row_eq]
  have hav1 : (progP [97] [setS [97] e]).av = .agg [.isl 1 [[.str [97]]], .isl 2 [], .isl 5 [[.str mainN, .isl 1 [], .isl 1 [], .bool false, .isl 5 [[.int .i64 1, .str [97], .isl 5 [[.int .i64 e.kind, .int .i64 e.op, .int .u32 e.num, .str e.name, .isl 5 (e.kids.map Ex.row)]], .isl 5 [], .isl 5 []]]]]] := by
    simp only [progP, Pg.av, Pg.row, Fu.row, List.map_cons, List.map_nil, strRow, hsr]
  rw [List.map_cons, List.map_nil, hsr, hav1] at hp1
  rw [hav1] at hR
  rw [hsr] at hset
  cases hRP : rightP (progP [97] [setS [97] e]) with
  | false =>
    rw [hRP] at hR
    rw [e.row_eq] at *
    refine con_of 98 [.tmp 2] Try.func8 rfl rfl rfl rfl ?_
    refine awp_seq_k fun K hK => ?_
    refine awp_region rfl ?_
    simp only [RR, seval]
    refine awpN_intro fun b1 hn1 => ?_
    simp only [RR, seval]
    refine hK _ _ ?_; clear hK K
    refine awp_seq_k fun K hK => ?_
    refine awp_region rfl ?_
    simp only [RR, seval]
    refine awpC_pure' (hset) ?_
    simp only [RR, seval]
    refine awpB_sealed ?_
    simp only [RR, seval]
    refine awpC_pure' (hp1) ?_
    simp only [RR, seval]
    refine awpN_intro fun b3 hn3 => ?_
    have nb3_b1 : b3 ≠ b1 := fun e => by rw [e] at hn3; simp only [RR, seval, reduceCtorEq] at hn3
    have nb1_b3 : b1 ≠ b3 := fun e => nb3_b1 e.symm
    simp only [nb3_b1, nb1_b3, RR, seval]
    refine hK _ _ ?_; clear hK K
    refine awp_seq ?_
    refine awp_seq_k fun K hK => ?_
    refine awp_region rfl ?_
    simp only [nb3_b1, nb1_b3, RR, seval]
    all_goals try (refine awpC_pure' (hR) ?_; simp only [nb3_b1, nb1_b3, RR, seval])
    all_goals try ((first | refine awpG_splitN (fun h => ?_) (fun h => ?_) | refine awpG_split (fun h => ?_) (fun h => ?_)) <;> simp only [h, nb3_b1, nb1_b3, RR, seval])
    all_goals
      refine hK _ _ ?_; clear hK K
      refine awp_if true rfl (fun _ => ?_) (fun hc => by cases hc)
      refine awp_seq_k fun K hK => ?_
      refine awp_region rfl ?_
      simp only [nb3_b1, nb1_b3, RR, seval]
      refine awpC_pure' (awake_con) ?_
      simp only [nb3_b1, nb1_b3, RR, seval]
      refine hK _ _ ?_; clear hK K
      refine awp_ret ?_; simp only [bodyQ, aresult, ares, RR, seval]
      refine Gives.pure ?_
      rfl
  | true =>
    rw [hRP] at hR
    have hX := setP_right hRP
    have hszb : e.sz ≤ 4611686018427387904 := by
      have := right_sz _ [e] 2 (Nat.le_refl _) (by omega) (by rw [rightE_cons, hX, rightE_nil]; rfl)
      simp only [szE, List.length_cons, List.length_nil] at this
      have h6 : (25 - (2 : Int)).toNat = 23 := rfl
      rw [h6] at this
      omega
    have hpt := parts_con _ e (Nat.le_refl _) hszb
    by_cases h60 : e.sz ≤ 60
    rotate_left
    · have z60 : (60 : Int) < ((e.sz : Nat) : Int) := by omega
      rw [e.row_eq] at *
      refine con_of 98 [.tmp 2] Try.func8 rfl rfl rfl rfl ?_
      refine awp_seq_k fun K hK => ?_
      refine awp_region rfl ?_
      simp only [z60, RR, seval]
      refine awpN_intro fun b1 hn1 => ?_
      simp only [z60, RR, seval]
      refine hK _ _ ?_; clear hK K
      refine awp_seq_k fun K hK => ?_
      refine awp_region rfl ?_
      simp only [z60, RR, seval]
      refine awpC_pure' (hset) ?_
      simp only [z60, RR, seval]
      refine awpB_sealed ?_
      simp only [z60, RR, seval]
      refine awpC_pure' (hp1) ?_
      simp only [z60, RR, seval]
      refine awpN_intro fun b3 hn3 => ?_
      have nb3_b1 : b3 ≠ b1 := fun e => by rw [e] at hn3; simp only [RR, seval, reduceCtorEq] at hn3
      have nb1_b3 : b1 ≠ b3 := fun e => nb3_b1 e.symm
      simp only [nb3_b1, nb1_b3, z60, RR, seval]
      refine hK _ _ ?_; clear hK K
      refine awp_seq ?_
      refine awp_seq_k fun K hK => ?_
      refine awp_region rfl ?_
      simp only [nb3_b1, nb1_b3, z60, RR, seval]
      all_goals try (refine awpC_pure' (hR) ?_; simp only [nb3_b1, nb1_b3, z60, RR, seval])
      all_goals try ((first | refine awpG_splitN (fun h => ?_) (fun h => ?_) | refine awpG_split (fun h => ?_) (fun h => ?_)) <;> simp only [h, nb3_b1, nb1_b3, z60, RR, seval])
      all_goals try (refine awpC_pure' (hpt) ?_; simp only [nb3_b1, nb1_b3, z60, RR, seval])
      all_goals
        refine hK _ _ ?_; clear hK K
        refine awp_if true rfl (fun _ => ?_) (fun hc => by cases hc)
        refine awp_seq_k fun K hK => ?_
        refine awp_region rfl ?_
        simp only [nb3_b1, nb1_b3, z60, RR, seval]
        refine awpC_pure' (awake_con) ?_
        simp only [nb3_b1, nb1_b3, z60, RR, seval]
        refine hK _ _ ?_; clear hK K
        refine awp_ret ?_; simp only [bodyQ, aresult, ares, z60, RR, seval]
        refine Gives.pure ?_
        rfl
    have z60 : ¬ (60 : Int) < ((e.sz : Nat) : Int) := by omega
    obtain ⟨p, hpe⟩ : ∃ p, plX e = true → valX (e.sz + 1) e = some p := by
      cases hpl : plX e with
      | false => exact ⟨(0, 0), fun h => by cases h⟩
      | true => obtain ⟨p, hp⟩ := right_val _ e 2 (Nat.le_refl _) hX hpl; exact ⟨p, fun _ => hp⟩
    have hv := Value_con _ e p hpe he
    have hjv := JValue_con _ e p 2 hX hpe he
    have hcase : (if plX e then p.2 else 1) = 1 ∨ ((if plX e then p.2 else 1) = 0 ∧ PCon env 14 [(valP e).av, .str [], .int .i64 0] (resV 1 [byA (if plX e then p.1 else 0) 0, byA (if plX e then p.1 else 0) 1, byA (if plX e then p.1 else 0) 2, byA (if plX e then p.1 else 0) 3] 0)) ∨ ((if plX e then p.2 else 1) = 14 ∧ PCon env 14 [(valP e).av, .str [], .int .i64 0] (resV 2 [] 0)) := by
      cases hpl : plX e with
      | false => exact .inl rfl
      | true =>
        have hrun := val_run _ e p 2 hX hpl (hpe hpl)
        have hv2 := val_ev ⟨[], [], 0⟩ (fun _ => (false, 0)) [] (stA 0 []) _ e 2 p hX hpl (hpe hpl)
        by_cases hz : p.2 = 0
        · rw [if_pos hz] at hrun
          exact .inr (.inl ⟨hz, Run_con _ (valP_ok he h60) [] (by simp) 0 (by simp [i64R]) hrun⟩)
        · rw [if_neg hz] at hrun
          refine .inr (.inr ⟨?_, Run_con _ (valP_ok he h60) [] (by simp) 0 (by simp [i64R]) hrun⟩)
          rw [(hv2.2 hz).1]; rfl
    have uV : u32R (if plX e then p.1 else 0) := by
      cases hpl : plX e with
      | false => simp [u32R]
      | true => exact valX_u _ e p he (hpe hpl)
    generalize (if plX e then p.1 else 0) = V1 at *
    generalize (if plX e then p.2 else 1) = V2 at *
    have hq := rSound_con (valP e) (valP_few he h60)
    generalize soundT (valP e) = z at *
    have hp2 := lprog_con [97] (setS [97] e :: outsA)
    have hav2 : (valP e).av = .agg [.isl 1 [[.str [97]]], .isl 2 [], .isl 5 [[.str mainN, .isl 1 [], .isl 1 [], .bool false, .isl 5 ((setS [97] e :: outsA).map Sm.row)]]] := rfl
    have hav3 : (progP [97] (setS [97] e :: outsA)).av = .agg [.isl 1 [[.str [97]]], .isl 2 [], .isl 5 [[.str mainN, .isl 1 [], .isl 1 [], .bool false, .isl 5 ((setS [97] e :: outsA).map Sm.row)]]] := rfl
    rw [hav3] at hp2
    rw [hav2] at hq hcase
    simp only [resV] at hcase
    have hnm := lname_con [97]
    simp only [nameX, Ex.row, rowsE] at hnm
    have hlo : outsA.length = 4 := rfl
    have hog : ∀ k, k < 4 → outsA[k]? = some (outA k) := fun k hk => by
      match k, hk with
      | 0, _ => rfl
      | 1, _ => rfl
      | 2, _ => rfl
      | 3, _ => rfl
    rw [e.row_eq] at *
    have hzs : z = 0 ∨ ¬ z = 0 := by omega
    rcases hcase with rfl | ⟨rfl, hc⟩ | ⟨rfl, hc⟩ <;> rcases hzs with zs | zs
    all_goals
      refine con_of 98 [.tmp 2] Try.func8 rfl rfl rfl rfl ?_
      refine awp_seq_k fun K hK => ?_
      refine awp_region rfl ?_
      simp only [z60, zs, RR, seval]
      refine awpN_intro fun b1 hn1 => ?_
      simp only [z60, zs, RR, seval]
      refine hK _ _ ?_; clear hK K
      refine awp_seq_k fun K hK => ?_
      refine awp_region rfl ?_
      simp only [z60, zs, RR, seval]
      refine awpC_pure' (hset) ?_
      simp only [z60, zs, RR, seval]
      refine awpB_sealed ?_
      simp only [z60, zs, RR, seval]
      refine awpC_pure' (hp1) ?_
      simp only [z60, zs, RR, seval]
      refine awpN_intro fun b3 hn3 => ?_
      have nb3_b1 : b3 ≠ b1 := fun e => by rw [e] at hn3; simp only [RR, seval, reduceCtorEq] at hn3
      have nb1_b3 : b1 ≠ b3 := fun e => nb3_b1 e.symm
      simp only [nb3_b1, nb1_b3, z60, zs, RR, seval]
      refine hK _ _ ?_; clear hK K
      refine awp_seq ?_
      refine awp_seq_k fun K hK => ?_
      refine awp_region rfl ?_
      simp only [nb3_b1, nb1_b3, z60, zs, RR, seval]
      all_goals try (refine awpC_pure' (hR) ?_; simp only [nb3_b1, nb1_b3, z60, zs, RR, seval])
      all_goals try ((first | refine awpG_splitN (fun h => ?_) (fun h => ?_) | refine awpG_split (fun h => ?_) (fun h => ?_)) <;> simp only [h, nb3_b1, nb1_b3, z60, zs, RR, seval])
      all_goals try (refine awpC_pure' (hpt) ?_; simp only [nb3_b1, nb1_b3, z60, zs, RR, seval])
      all_goals
        refine hK _ _ ?_; clear hK K
        refine awp_if false rfl (fun hc => by cases hc) (fun _ => ?_)
        refine awp_skip ?_; try simp only [RR]
        refine awp_seq_k fun K hK => ?_
        refine awp_region rfl ?_
        simp only [nb3_b1, nb1_b3, z60, zs, RR, seval]
        refine awpC_pure' (hv) ?_
        simp only [nb3_b1, nb1_b3, z60, zs, RR, seval]
        refine hK _ _ ?_; clear hK K
        refine awp_seq_k fun K hK => ?_
        refine awp_region rfl ?_
        simp only [nb3_b1, nb1_b3, z60, zs, RR, seval]
        refine awpC_pure' (hjv) ?_
        simp only [nb3_b1, nb1_b3, z60, zs, RR, seval]
        refine hK _ _ ?_; clear hK K
        refine awp_seq ?_
        refine awp_seq_k fun K hK => ?_
        refine awp_region rfl ?_
        simp only [nb3_b1, nb1_b3, z60, zs, RR, seval]
        repeat' ((first | refine awpG_splitN (fun h => ?_) (fun h => ?_) | refine awpG_split (fun h => ?_) (fun h => ?_)) <;> simp only [h, nb3_b1, nb1_b3, z60, zs, RR, seval])
        all_goals
          refine hK _ _ ?_; clear hK K
          refine awp_if false rfl (fun hc => by cases hc) (fun _ => ?_)
          refine awp_skip ?_; try simp only [RR]
          refine awp_seq_k fun K hK => ?_
          refine awp_region rfl ?_
          simp only [nb3_b1, nb1_b3, z60, zs, RR, seval]
          refine awpC_pure' hset ?_
          simp only [nb3_b1, nb1_b3, z60, zs, RR, seval]
          refine awpB_own fun b45 hb45 => ?_
          have nb1_b45 : b1 ≠ b45 := fun e => by rw [← e] at hb45; simp only [nb3_b1, nb1_b3, z60, zs, RR, seval, reduceCtorEq] at hb45
          have nb3_b45 : b3 ≠ b45 := fun e => by rw [← e] at hb45; simp only [nb3_b1, nb1_b3, z60, zs, RR, seval, reduceCtorEq] at hb45
          have nb45_b1 : b45 ≠ b1 := fun e => nb1_b45 e.symm
          have nb45_b3 : b45 ≠ b3 := fun e => nb3_b45 e.symm
          simp only [nb3_b1, nb1_b3, z60, zs, RR, seval]
          refine hK _ _ ?_; clear hK K
          refine awp_seq ?_
          refine awp_seq_k fun K hK => ?_
          refine awp_region rfl ?_
          simp only [z60, zs, RR, seval]
          refine hK _ _ ?_; clear hK K
          refine awp_name fun F1 M1 hfr hH => ?_
          have g2 := hfr 2
          have g4 := hfr 4
          have g5 := hfr 5
          have g8 := hfr 8
          have g9 := hfr 9
          have gb1 := hH b1
          have gb3 := hH b3
          have gb45 := hH b45
          try simp only [nb3_b1, nb1_b3, nb1_b45, nb3_b45, nb45_b1, nb45_b3, z60, zs, RR, seval] at g2 g4 g5 g8 g9 gb1 gb3 gb45
          have f2 := g2; clear g2
          have f4 := g4; clear g4
          have f5 := g5; clear g5
          have f8 := g8; clear g8
          have f9 := g9; clear g9
          have hb1 := gb1; clear gb1
          have hb3 := gb3; clear gb3
          have hb45 := gb45; clear gb45
          clear hfr hH
          refine awp_block ?_
          refine awp_while [2, 4, 5] (4) (fun m fr M => M b1 = M1 b1 ∧ M b3 = M1 b3 ∧ m ≤ 4 ∧ fr 9 = .int .u32 ((4 - m : Nat) : Int) ∧ OwnL 5 (fr 8) ((setS [97] e :: outsA.take (4 - m)).map Sm.row) M ∧ Al.off (fr 8) b1) ⟨rfl, rfl, Nat.le_refl _, f9, (by rw [f8, List.map_cons, hsr]; exact .inr ⟨b45, rfl, hb45⟩), (by rw [f8]; exact fun s n e => by cases e; exact nb45_b1 rfl)⟩ ?_
          rintro m F2 M2 ⟨gb1, gb3, hm, f9, hown, ho1⟩ agx K0 hK0
          have f2 := (agx 2 rfl).trans f2
          have f4 := (agx 4 rfl).trans f4
          have f5 := (agx 5 rfl).trans f5
          have hb1 := gb1.trans hb1
          have hb3 := gb3.trans hb3
          have ag0 := agree.refl [2, 4, 5] F2
          have e0_b1 := gb1; clear gb1
          have e0_b3 := gb3; clear gb3
          clear agx
          obtain ⟨v8, f8⟩ : ∃ v, F2 8 = v := ⟨_, rfl⟩
          rw [f8] at hown ho1
          refine awp_seq ?_
          refine awp_seq_k fun K hK => ?_
          refine awp_region rfl ?_
          simp only [f9, z60, zs, RR, seval]
          refine hK _ _ ?_; clear hK K
          refine awp_if _ rfl (fun hc => ?_) (fun hc => ?_)
          · have hw0 := hc; clear hc
            obtain ⟨j, rfl⟩ : ∃ j, m = j + 1 := ⟨m - 1, by have := of_decide_eq_true hw0; omega⟩
            have hj : 4 - j = 4 - (j + 1) + 1 := by omega
            have hk4 : 4 - (j + 1) < 4 := by omega
            generalize 4 - (j + 1) = k at *
            have htk : outsA.take (k + 1) = outsA.take k ++ [outA k] := by
              obtain ⟨q1, q2⟩ := List.getElem?_eq_some_iff.1 (hog k hk4)
              rw [List.take_succ_eq_append_getElem q1, q2]
            have htl : (outsA.take k).length ≤ 4 := by rw [List.length_take]; omega
            have e1 : IntKind.wrap .u32 (8 * (k : Int)) = 8 * (k : Int) := wrap_in' (by omega) (by omega)
            have e2 : IntKind.wrap .u32 ((k : Int) + 1) = ((k + 1 : Nat) : Int) := by rw [wrap_in' (by omega) (by omega)]; omega
            have hn := lnum_con (8 * (k : Int))
            have ho := lop_con 13 (nameX [97]) (numX (8 * (k : Int)))
            have hpu := lput_con (opX 13 (nameX [97]) (numX (8 * (k : Int))))
            have hrow := outA_row k
            simp only [putS, opX, nameX, numX, Ex.row, rowsE, Sm.row_eq, List.map_cons, List.map_nil, Sm.kind, Sm.name, Sm.es, Sm.thn, Sm.els] at hn ho hpu
            refine awp_skip ?_; try simp only [RR]
            refine awp_seq ?_
            refine awp_block ?_
            refine awp_region rfl ?_
            simp only [f8, f9, hb1, hb3, nb3_b1, nb1_b3, nb1_b45, nb3_b45, nb45_b1, nb45_b3, z60, zs, e1, e2, RR, seval]
            refine awpC_pure' (hnm) ?_
            simp only [f8, f9, hb1, hb3, nb3_b1, nb1_b3, nb1_b45, nb3_b45, nb45_b1, nb45_b3, z60, zs, e1, e2, RR, seval]
            refine awpC_pure' (hn) ?_
            simp only [f8, f9, hb1, hb3, nb3_b1, nb1_b3, nb1_b45, nb3_b45, nb45_b1, nb45_b3, z60, zs, e1, e2, RR, seval]
            refine awpC_pure' (ho) ?_
            simp only [f8, f9, hb1, hb3, nb3_b1, nb1_b3, nb1_b45, nb3_b45, nb45_b1, nb45_b3, z60, zs, e1, e2, RR, seval]
            refine awpC_pure' (hpu) ?_
            simp only [f8, f9, hb1, hb3, nb3_b1, nb1_b3, nb1_b45, nb3_b45, nb45_b1, nb45_b3, z60, zs, e1, e2, RR, seval]
            refine awpB_sealed ?_
            simp only [f8, f9, hb1, hb3, nb3_b1, nb1_b3, nb1_b45, nb3_b45, nb45_b1, nb45_b3, z60, zs, e1, e2, RR, seval]
            refine awpA_ownF hown (by simp only [List.length_map, List.length_cons, List.length_nil]; omega) (fun b e => by first | trivial | (repeat' apply And.intro) <;> (intro c; subst c; first | exact ho1 _ _ e | exact hown.nb' hb3 (by decide) e)) fun v12 M3 hown' hk' hg' => ?_
            have ho1' := hg' b1 ho1 (by rw [hb1]; exact Option.some_ne_none _)
            simp only [f8, f9, hb1, hb3, nb3_b1, nb1_b3, nb1_b45, nb3_b45, nb45_b1, nb45_b3, z60, zs, e1, e2, RR, seval]
            have gb1 := hk' b1 _ hb1 (by first | exact (hown).nb' hb1 (by decide) | exact ho1 _ _ | assumption | (intro e; simp_all))
            have e0_b1 := (gb1.trans hb1.symm).trans e0_b1
            have hb1 := gb1; clear gb1
            have gb3 := hk' b3 _ hb3 (by first | exact (hown).nb' hb3 (by decide) | exact ho3 _ _ | assumption | (intro e; simp_all))
            have e0_b3 := (gb3.trans hb3.symm).trans e0_b3
            have hb3 := gb3; clear gb3
            have hce := hown'.cells; have hoe := hown'.one1
            try simp only [hce, hoe, Option.bind_some, List.drop, f8, f9, hb1, hb3, nb3_b1, nb1_b3, nb1_b45, nb3_b45, nb45_b1, nb45_b3, z60, zs, e1, e2, RR, seval]
            refine awp_region rfl ?_
            simp only [f9, z60, zs, e1, e2, RR, seval]
            refine hK0 (j) _ _ (by omega) ⟨(by first | exact e0_b1 | (simp only [nb3_b1, nb1_b3, nb1_b45, nb3_b45, nb45_b1, nb45_b3, upd_app, seval]; first | done | exact e0_b1)), (by first | exact e0_b3 | (simp only [nb3_b1, nb1_b3, nb1_b45, nb3_b45, nb45_b1, nb45_b3, upd_app, seval]; first | done | exact e0_b3)), (by omega), (by rw [hj]; rfl), (by rw [hj, htk, ← List.cons_append, List.map_append, List.map_singleton, hrow]; exact hown'), ho1'⟩ (by repeat (first | exact ag0 | refine agree.upd rfl ?_))
          · have hw0 := hc; clear hc
            have hm0 : m = 0 := by have := of_decide_eq_false hw0; omega
            subst hm0
            rw [Nat.sub_zero, List.take_of_length_le (Nat.le_of_eq hlo)] at hown
            refine awp_exit ?_; simp only [RR, seval]
            refine awp_name fun F4 M4 hfr hH => ?_
            have g2 := hfr 2
            have g4 := hfr 4
            have g5 := hfr 5
            have g8 := hfr 8
            have gb1 := hH b1
            have gb3 := hH b3
            try simp only [f2, f4, f5, f8, f9, hb1, hb3, nb3_b1, nb1_b3, nb1_b45, nb3_b45, nb45_b1, nb45_b3, z60, zs, RR, seval] at g2 g4 g5 g8 gb1 gb3
            have hown := hown.same hH
            have f2 := g2; clear g2
            have f4 := g4; clear g4
            have f5 := g5; clear g5
            have f8 := g8; clear g8
            have hb1 := gb1; clear gb1
            have hb3 := gb3; clear gb3
            clear hfr hH
            refine awp_seal2 (i := 8) (by rw [f8]; exact hown) fun F5 M5 hs hf' hk' => ?_
            have g2 := (hf' 2 (by decide) (by rw [f2]; first | exact apart_ptr _ _ _ _ _ | exact apart_int _ _ _ | exact apart_str _ _ | exact apart_isl _ _ _ | exact apart_bool _ _ | exact apart_bool' _ | exact apart_undef _ | exact apart_tup _ _ | exact apart_mp _ _ | assumption)).trans f2
            have g4 := (hf' 4 (by decide) (by rw [f4]; first | exact apart_ptr _ _ _ _ _ | exact apart_int _ _ _ | exact apart_str _ _ | exact apart_isl _ _ _ | exact apart_bool _ _ | exact apart_bool' _ | exact apart_undef _ | exact apart_tup _ _ | exact apart_mp _ _ | assumption)).trans f4
            have g5 := (hf' 5 (by decide) (by rw [f5]; first | exact apart_ptr _ _ _ _ _ | exact apart_int _ _ _ | exact apart_str _ _ | exact apart_isl _ _ _ | exact apart_bool _ _ | exact apart_bool' _ | exact apart_undef _ | exact apart_tup _ _ | exact apart_mp _ _ | assumption)).trans f5
            have g8 := hs
            have gb1 := hk' b1 _ hb1 (by rw [f8]; first | exact (hown).nb' hb1 (by decide) | exact ho1 _ _ | assumption | (intro e; simp_all))
            have hb1 := gb1; clear gb1
            have gb3 := hk' b3 _ hb3 (by rw [f8]; first | exact (hown).nb' hb3 (by decide) | exact ho3 _ _ | assumption | (intro e; simp_all))
            have hb3 := gb3; clear gb3
            have f2 := g2; clear g2
            have f4 := g4; clear g4
            have f5 := g5; clear g5
            have f8 := g8; clear g8
            clear hs hf' hk'
            refine awp_seq_k fun K hK => ?_
            refine awp_region rfl ?_
            simp only [f8, hb1, hb3, nb3_b1, nb1_b3, nb1_b45, nb3_b45, nb45_b1, nb45_b3, z60, zs, RR, seval]
            refine awpC_pure' (hp2) ?_
            simp only [f8, hb1, hb3, nb3_b1, nb1_b3, nb1_b45, nb3_b45, nb45_b1, nb45_b3, z60, zs, RR, seval]
            refine awpN_intro fun b10 hn10 => ?_
            have nb10_b1 : b10 ≠ b1 := fun e => by rw [e] at hn10; simp only [hb1, nb3_b1, nb1_b3, nb1_b45, nb45_b1, RR, seval, reduceCtorEq] at hn10
            have nb1_b10 : b1 ≠ b10 := fun e => nb10_b1 e.symm
            have nb10_b3 : b10 ≠ b3 := fun e => by rw [e] at hn10; simp only [hb3, nb3_b1, nb1_b3, nb3_b45, nb45_b3, RR, seval, reduceCtorEq] at hn10
            have nb3_b10 : b3 ≠ b10 := fun e => nb10_b3 e.symm
            simp only [f8, hb1, hb3, nb3_b1, nb1_b3, nb1_b45, nb3_b45, nb45_b1, nb45_b3, nb10_b1, nb1_b10, nb10_b3, nb3_b10, z60, zs, RR, seval]
            refine hK _ _ ?_; clear hK K
            refine awp_seq ?_
            refine awp_seq_k fun K hK => ?_
            refine awp_region rfl ?_
            simp only [f5, hb1, hb3, nb3_b1, nb1_b3, nb1_b45, nb3_b45, nb45_b1, nb45_b3, nb10_b1, nb1_b10, nb10_b3, nb3_b10, z60, zs, RR, seval]
            all_goals try ((first | refine awpG_splitN (fun h => ?_) (fun h => ?_) | refine awpG_split (fun h => ?_) (fun h => ?_)) <;> simp only [h, f2, f4, f5, f8, hb1, hb3, nb3_b1, nb1_b3, nb1_b45, nb3_b45, nb45_b1, nb45_b3, nb10_b1, nb1_b10, nb10_b3, nb3_b10, z60, zs, RR, seval])
            all_goals try (refine awpC_pure' (hq) ?_; simp only [f5, hb1, hb3, nb3_b1, nb1_b3, nb1_b45, nb3_b45, nb45_b1, nb45_b3, nb10_b1, nb1_b10, nb10_b3, nb3_b10, z60, zs, RR, seval])
            all_goals
              refine hK _ _ ?_; clear hK K
              refine awp_if _ rfl (fun hc14 => ?_) (fun hc14 => ?_)
              · try (cases hc14; done)
                all_goals
                  refine awp_seq_k fun K hK => ?_
                  refine awp_region rfl ?_
                  simp only [hb1, hb3, nb3_b1, nb1_b3, nb1_b45, nb3_b45, nb45_b1, nb45_b3, nb10_b1, nb1_b10, nb10_b3, nb3_b10, z60, zs, RR, seval]
                  refine awpC_pure' (awake_con) ?_
                  simp only [hb1, hb3, nb3_b1, nb1_b3, nb1_b45, nb3_b45, nb45_b1, nb45_b3, nb10_b1, nb1_b10, nb10_b3, nb3_b10, z60, zs, RR, seval]
                  refine hK _ _ ?_; clear hK K
                  refine awp_ret ?_; simp only [bodyQ, aresult, ares, f2, z60, zs, RR, seval]
                  refine Gives.pure ?_
                  rfl
              · try (cases hc14; done)
                all_goals
                  refine awp_skip ?_; try simp only [RR]
                  refine awp_seq_k fun K hK => ?_
                  refine awp_region rfl ?_
                  simp only [hb1, hb3, nb3_b1, nb1_b3, nb1_b45, nb3_b45, nb45_b1, nb45_b3, nb10_b1, nb1_b10, nb10_b3, nb3_b10, z60, zs, RR, seval]
                  refine awpC_pure' (hc) ?_
                  simp only [hb1, hb3, nb3_b1, nb1_b3, nb1_b45, nb3_b45, nb45_b1, nb45_b3, nb10_b1, nb1_b10, nb10_b3, nb3_b10, z60, zs, RR, seval]
                  refine awpN_intro fun b11 hn11 => ?_
                  have nb11_b1 : b11 ≠ b1 := fun e => by rw [e] at hn11; simp only [hb1, nb3_b1, nb1_b3, nb1_b45, nb45_b1, nb10_b1, nb1_b10, RR, seval, reduceCtorEq] at hn11
                  have nb1_b11 : b1 ≠ b11 := fun e => nb11_b1 e.symm
                  have nb11_b3 : b11 ≠ b3 := fun e => by rw [e] at hn11; simp only [hb3, nb3_b1, nb1_b3, nb3_b45, nb45_b3, nb10_b3, nb3_b10, RR, seval, reduceCtorEq] at hn11
                  have nb3_b11 : b3 ≠ b11 := fun e => nb11_b3 e.symm
                  have nb11_b10 : b11 ≠ b10 := fun e => by rw [e] at hn11; simp only [nb10_b1, nb1_b10, nb10_b3, nb3_b10, RR, seval, reduceCtorEq] at hn11
                  have nb10_b11 : b10 ≠ b11 := fun e => nb11_b10 e.symm
                  simp only [hb1, hb3, nb3_b1, nb1_b3, nb1_b45, nb3_b45, nb45_b1, nb45_b3, nb10_b1, nb1_b10, nb10_b3, nb3_b10, nb11_b1, nb1_b11, nb11_b3, nb3_b11, nb11_b10, nb10_b11, z60, zs, RR, seval]
                  refine hK _ _ ?_; clear hK K
                  refine awp_seq ?_
                  refine awp_seq_k fun K hK => ?_
                  refine awp_region rfl ?_
                  simp only [f5, z60, zs, RR, seval]
                  refine hK _ _ ?_; clear hK K
                  refine awp_if _ rfl (fun hc17 => ?_) (fun hc17 => ?_)
                  · try (cases hc17; done)
                    all_goals
                      refine awp_seq_k fun K hK => ?_
                      refine awp_region rfl ?_
                      simp only [hb1, hb3, nb3_b1, nb1_b3, nb1_b45, nb3_b45, nb45_b1, nb45_b3, nb10_b1, nb1_b10, nb10_b3, nb3_b10, nb11_b1, nb1_b11, nb11_b3, nb3_b11, nb11_b10, nb10_b11, z60, zs, acells, Option.map_some, decide_true, Bool.and_self, Bool.and_true, RR, seval]
                      all_goals try (refine awpC_pure' (awake_con) ?_; simp only [hb1, hb3, nb3_b1, nb1_b3, nb1_b45, nb3_b45, nb45_b1, nb45_b3, nb10_b1, nb1_b10, nb10_b3, nb3_b10, nb11_b1, nb1_b11, nb11_b3, nb3_b11, nb11_b10, nb10_b11, z60, zs, acells, Option.map_some, decide_true, Bool.and_self, Bool.and_true, RR, seval])
                      all_goals try ((first | refine awpG_splitN (fun h => ?_) (fun h => ?_) | refine awpG_split (fun h => ?_) (fun h => ?_)) <;> simp only [h, f2, f4, f5, f8, hb1, hb3, nb3_b1, nb1_b3, nb1_b45, nb3_b45, nb45_b1, nb45_b3, nb10_b1, nb1_b10, nb10_b3, nb3_b10, nb11_b1, nb1_b11, nb11_b3, nb3_b11, nb11_b10, nb10_b11, z60, zs, acells, Option.map_some, decide_true, Bool.and_self, Bool.and_true, RR, seval])
                      all_goals
                        refine hK _ _ ?_; clear hK K
                        refine awp_ret ?_; simp only [bodyQ, aresult, ares, f2, z60, zs, acells, Option.map_some, decide_true, Bool.and_self, Bool.and_true, RR, seval]
                        refine Gives.pure ?_
                        rfl
                  · try (cases hc17; done)
                    all_goals
                      refine awp_skip ?_; try simp only [RR]
                      refine awp_seq_k fun K hK => ?_
                      refine awp_region rfl ?_
                      simp only [f4, hb1, hb3, nb3_b1, nb1_b3, nb1_b45, nb3_b45, nb45_b1, nb45_b3, nb10_b1, nb1_b10, nb10_b3, nb3_b10, nb11_b1, nb1_b11, nb11_b3, nb3_b11, nb11_b10, nb10_b11, z60, zs, acells, Option.map_some, decide_true, Bool.and_self, Bool.and_true, RR, seval]
                      all_goals try (refine awpC_pure' (awake_con) ?_; simp only [f4, hb1, hb3, nb3_b1, nb1_b3, nb1_b45, nb3_b45, nb45_b1, nb45_b3, nb10_b1, nb1_b10, nb10_b3, nb3_b10, nb11_b1, nb1_b11, nb11_b3, nb3_b11, nb11_b10, nb10_b11, z60, zs, acells, Option.map_some, decide_true, Bool.and_self, Bool.and_true, RR, seval])
                      all_goals try ((first | refine awpG_splitN (fun h => ?_) (fun h => ?_) | refine awpG_split (fun h => ?_) (fun h => ?_)) <;> simp only [h, f2, f4, f5, f8, hb1, hb3, nb3_b1, nb1_b3, nb1_b45, nb3_b45, nb45_b1, nb45_b3, nb10_b1, nb1_b10, nb10_b3, nb3_b10, nb11_b1, nb1_b11, nb11_b3, nb3_b11, nb11_b10, nb10_b11, z60, zs, acells, Option.map_some, decide_true, Bool.and_self, Bool.and_true, RR, seval])
                      all_goals try (refine awpB_sealed ?_; simp only [f4, hb1, hb3, nb3_b1, nb1_b3, nb1_b45, nb3_b45, nb45_b1, nb45_b3, nb10_b1, nb1_b10, nb10_b3, nb3_b10, nb11_b1, nb1_b11, nb11_b3, nb3_b11, nb11_b10, nb10_b11, z60, zs, acells, Option.map_some, decide_true, Bool.and_self, Bool.and_true, RR, seval])
                      all_goals
                        refine hK _ _ ?_; clear hK K
                        refine awp_ret ?_; simp only [bodyQ, aresult, ares, f2, z60, zs, acells, Option.map_some, decide_true, Bool.and_self, Bool.and_true, RR, seval]
                        refine Gives.pure ?_
                        have hb0 : byA V1 0 = UInt8.ofNat (IntKind.wrap .u8 V1).toNat := by unfold byA; rw [Nat.mul_zero, Int.pow_zero, Int.fdiv_one]
                        rw [hb0]; exact congrArg AV.bool (decide_eq_true rfl)
end Go.Proofs.Ytlokndnkpleegaa
