/- Chapter 15: the laws are awake; programs and expressions are read alike. Chapter 15: from a row's world to the little logic's. -/
import Derived.Test.YtlpeikljipknoaaDoorGSmf
import Derived.Test.YtlpeikljipknoaaDoorSy2
import Derived.Test.YtlpeikljipknoaaDoorAl3
set_option linter.unusedSimpArgs false
set_option linter.unusedVariables false
set_option maxRecDepth 10000
namespace Go.Proofs.YtlpeikljipknoaaDoor
open Go.Al
def rdE (s : Str) : Option Ex := match lexS s with
  | .error _ => none
  | .ok T => match exprP T 1 0 with
    | .bad _ => none
    | .ok e m => if m < T.length then none else some e
def rdP (s : Str) : Option Pg := match lexS s with
  | .error _ => none
  | .ok T => match progP T 0 with
    | .bad _ => none
    | .ok e m => if m < T.length then none else some e
theorem srcE_rd {s : Str} {e : Ex} (h : rdE s = some e) (hr : rightP (aloneP e) = true) : srcE s = (e, 0, 0) := by
  unfold rdE at h
  unfold srcE
  cases hl : lexS s with
  | error x => rw [hl] at h; cases h
  | ok T =>
    rw [hl] at h
    simp only at h ⊢
    cases hp : exprP T 1 0 with
    | bad m => rw [hp] at h; cases h
    | ok x m =>
      rw [hp] at h
      simp only at h ⊢
      by_cases c : m < T.length
      · rw [if_pos c] at h; cases h
      · rw [if_neg c] at h ⊢
        cases h
        rw [if_pos hr]
theorem srcP_rd {s : Str} {e : Pg} (h : rdP s = some e) (hr : rightP e = true) : srcP s = (e, 0, 0) := by
  unfold rdP at h
  unfold srcP
  cases hl : lexS s with
  | error x => rw [hl] at h; cases h
  | ok T =>
    rw [hl] at h
    simp only at h ⊢
    cases hp : progP T 0 with
    | bad m => rw [hp] at h; cases h
    | ok x m =>
      rw [hp] at h
      simp only at h ⊢
      by_cases c : m < T.length
      · rw [if_pos c] at h; cases h
      · rw [if_neg c] at h ⊢
        cases h
        rw [if_pos hr]
theorem w1 : srcE [97, 32, 45, 32, 98, 32, 45, 32, 99] = (.mk 6 5 0 [] [.mk 6 5 0 [] [.mk 2 0 0 [97] [], .mk 2 0 0 [98] []], .mk 2 0 0 [99] []], 0, 0) := srcE_rd (by kernel_rfl) (by simp only [aloneP, rightP, rightF, List.all_cons, List.all_nil, rightS_cons, rightS_nil, rightM, rightE_cons, rightE_nil, rightX, Ex.kids, Sm.es, Sm.thn, Sm.els]; decide +kernel)
theorem w2 : srcE [49, 32, 60, 32, 50, 32, 61, 61, 32, 51, 32, 60, 32, 52] = (.mk 6 15 0 [] [.mk 6 14 0 [] [.mk 1 0 1 [] [], .mk 1 0 2 [] []], .mk 6 14 0 [] [.mk 1 0 3 [] [], .mk 1 0 4 [] []]], 0, 0) := srcE_rd (by kernel_rfl) (by simp only [aloneP, rightP, rightF, List.all_cons, List.all_nil, rightS_cons, rightS_nil, rightM, rightE_cons, rightE_nil, rightX, Ex.kids, Sm.es, Sm.thn, Sm.els]; decide +kernel)
theorem w3 : srcE [97, 32, 43] = (exZ, 3, 3) := by kernel_rfl
theorem w4 : srcP [102, 117, 110, 99, 32, 109, 97, 105, 110, 40, 41, 32, 123, 125] = (⟨[], [], [⟨[109, 97, 105, 110], [], [], false, []⟩]⟩, 0, 0) := srcP_rd (by kernel_rfl) (by simp only [aloneP, rightP, rightF, List.all_cons, List.all_nil, rightS_cons, rightS_nil, rightM, rightE_cons, rightE_nil, rightX, Ex.kids, Sm.es, Sm.thn, Sm.els]; decide +kernel)
theorem w5 : srcP [102, 117, 110, 99, 32, 109, 97, 105, 110, 40, 41, 32, 123, 32, 112, 117, 116, 40, 49, 41, 32, 125] = (pgZ, 21, 3) := by kernel_rfl
theorem w6 : srcP [102, 117, 110, 99, 32, 109, 97, 105, 110, 40, 41, 32, 123] = (pgZ, 13, 3) := by kernel_rfl
set_option maxHeartbeats 4000000 in
theorem awake_con : PCon env 11 [] (.bool true) := by
  have e1 := pExpr_con [97, 32, 45, 32, 98, 32, 45, 32, 99] (by decide)
  rw [w1] at e1
  have e2 := pExpr_con [49, 32, 60, 32, 50, 32, 61, 61, 32, 51, 32, 60, 32, 52] (by decide)
  rw [w2] at e2
  have e3 := pProg_con [102, 117, 110, 99, 32, 109, 97, 105, 110, 40, 41, 32, 123, 125] (by decide)
  rw [w4] at e3
  have e4 := pProg_con [102, 117, 110, 99, 32, 109, 97, 105, 110, 40, 41, 32, 123, 32, 112, 117, 116, 40, 49, 41, 32, 125] (by decide)
  rw [w5] at e4
  have e5 := pProg_con [102, 117, 110, 99, 32, 109, 97, 105, 110, 40, 41, 32, 123] (by decide)
  rw [w6] at e5
  have e6 := pExpr_con [97, 32, 43] (by decide)
  rw [w3] at e6
  simp only [resE, resP, exZ, pgZ, Pg.av, Pg.row, Fu.row, Ex.row_eq, Sm.row_eq, List.map_cons, List.map_nil, strRow, Ex.kind, Ex.op, Ex.num, Ex.name, Ex.kids, Sm.kind, Sm.name, Sm.es, Sm.thn, Sm.els] at e1 e2 e3 e4 e5 e6
  refine con_of 145 [.tmp 0] Tryd.func11 rfl rfl rfl rfl ?_
  refine awp_seq_k fun K hK => ?_
  refine awp_region rfl ?_
  simp only [RR, seval]
  refine hK _ _ ?_; clear hK K
  refine awp_seq_k fun K hK => ?_
  refine awp_region rfl ?_
  simp only [RR, seval]
  refine awpC_pure' (e1) ?_
  simp only [RR, seval]
  refine awpN_intro fun b1 hn1 => ?_
  simp only [RR, seval]
  refine hK _ _ ?_; clear hK K
  refine awp_seq_k fun K hK => ?_
  refine awp_region rfl ?_
  simp only [RR, seval]
  refine awpC_pure' (e2) ?_
  simp only [RR, seval]
  refine awpN_intro fun b4 hn4 => ?_
  have nb4_b1 : b4 ≠ b1 := fun e => by rw [e] at hn4; simp only [RR, seval, reduceCtorEq] at hn4
  have nb1_b4 : b1 ≠ b4 := fun e => nb4_b1 e.symm
  simp only [nb4_b1, nb1_b4, RR, seval]
  refine hK _ _ ?_; clear hK K
  refine awp_seq_k fun K hK => ?_
  refine awp_region rfl ?_
  simp only [nb4_b1, nb1_b4, RR, seval]
  refine awpC_pure' (e3) ?_
  simp only [nb4_b1, nb1_b4, RR, seval]
  refine awpN_intro fun b7 hn7 => ?_
  have nb7_b1 : b7 ≠ b1 := fun e => by rw [e] at hn7; simp only [nb4_b1, nb1_b4, RR, seval, reduceCtorEq] at hn7
  have nb1_b7 : b1 ≠ b7 := fun e => nb7_b1 e.symm
  have nb7_b4 : b7 ≠ b4 := fun e => by rw [e] at hn7; simp only [nb4_b1, nb1_b4, RR, seval, reduceCtorEq] at hn7
  have nb4_b7 : b4 ≠ b7 := fun e => nb7_b4 e.symm
  simp only [nb4_b1, nb1_b4, nb7_b1, nb1_b7, nb7_b4, nb4_b7, RR, seval]
  refine hK _ _ ?_; clear hK K
  refine awp_seq_k fun K hK => ?_
  refine awp_region rfl ?_
  simp only [nb4_b1, nb1_b4, nb7_b1, nb1_b7, nb7_b4, nb4_b7, RR, seval]
  refine awpC_pure' (e4) ?_
  simp only [nb4_b1, nb1_b4, nb7_b1, nb1_b7, nb7_b4, nb4_b7, RR, seval]
  refine awpN_intro fun b10 hn10 => ?_
  have nb10_b1 : b10 ≠ b1 := fun e => by rw [e] at hn10; simp only [nb4_b1, nb1_b4, nb7_b1, nb1_b7, RR, seval, reduceCtorEq] at hn10
  have nb1_b10 : b1 ≠ b10 := fun e => nb10_b1 e.symm
  have nb10_b4 : b10 ≠ b4 := fun e => by rw [e] at hn10; simp only [nb4_b1, nb1_b4, nb7_b4, nb4_b7, RR, seval, reduceCtorEq] at hn10
  have nb4_b10 : b4 ≠ b10 := fun e => nb10_b4 e.symm
  have nb10_b7 : b10 ≠ b7 := fun e => by rw [e] at hn10; simp only [nb7_b1, nb1_b7, nb7_b4, nb4_b7, RR, seval, reduceCtorEq] at hn10
  have nb7_b10 : b7 ≠ b10 := fun e => nb10_b7 e.symm
  simp only [nb4_b1, nb1_b4, nb7_b1, nb1_b7, nb7_b4, nb4_b7, nb10_b1, nb1_b10, nb10_b4, nb4_b10, nb10_b7, nb7_b10, RR, seval]
  refine hK _ _ ?_; clear hK K
  refine awp_seq_k fun K hK => ?_
  refine awp_region rfl ?_
  simp only [nb4_b1, nb1_b4, nb7_b1, nb1_b7, nb7_b4, nb4_b7, nb10_b1, nb1_b10, nb10_b4, nb4_b10, nb10_b7, nb7_b10, RR, seval]
  refine awpC_pure' (e5) ?_
  simp only [nb4_b1, nb1_b4, nb7_b1, nb1_b7, nb7_b4, nb4_b7, nb10_b1, nb1_b10, nb10_b4, nb4_b10, nb10_b7, nb7_b10, RR, seval]
  refine awpN_intro fun b13 hn13 => ?_
  have nb13_b1 : b13 ≠ b1 := fun e => by rw [e] at hn13; simp only [nb4_b1, nb1_b4, nb7_b1, nb1_b7, nb10_b1, nb1_b10, RR, seval, reduceCtorEq] at hn13
  have nb1_b13 : b1 ≠ b13 := fun e => nb13_b1 e.symm
  have nb13_b4 : b13 ≠ b4 := fun e => by rw [e] at hn13; simp only [nb4_b1, nb1_b4, nb7_b4, nb4_b7, nb10_b4, nb4_b10, RR, seval, reduceCtorEq] at hn13
  have nb4_b13 : b4 ≠ b13 := fun e => nb13_b4 e.symm
  have nb13_b7 : b13 ≠ b7 := fun e => by rw [e] at hn13; simp only [nb7_b1, nb1_b7, nb7_b4, nb4_b7, nb10_b7, nb7_b10, RR, seval, reduceCtorEq] at hn13
  have nb7_b13 : b7 ≠ b13 := fun e => nb13_b7 e.symm
  have nb13_b10 : b13 ≠ b10 := fun e => by rw [e] at hn13; simp only [nb10_b1, nb1_b10, nb10_b4, nb4_b10, nb10_b7, nb7_b10, RR, seval, reduceCtorEq] at hn13
  have nb10_b13 : b10 ≠ b13 := fun e => nb13_b10 e.symm
  simp only [nb4_b1, nb1_b4, nb7_b1, nb1_b7, nb7_b4, nb4_b7, nb10_b1, nb1_b10, nb10_b4, nb4_b10, nb10_b7, nb7_b10, nb13_b1, nb1_b13, nb13_b4, nb4_b13, nb13_b7, nb7_b13, nb13_b10, nb10_b13, RR, seval]
  refine hK _ _ ?_; clear hK K
  refine awp_seq_k fun K hK => ?_
  refine awp_region rfl ?_
  simp only [nb4_b1, nb1_b4, nb7_b1, nb1_b7, nb7_b4, nb4_b7, nb10_b1, nb1_b10, nb10_b4, nb4_b10, nb10_b7, nb7_b10, nb13_b1, nb1_b13, nb13_b4, nb4_b13, nb13_b7, nb7_b13, nb13_b10, nb10_b13, RR, seval]
  refine awpC_pure' (e6) ?_
  simp only [nb4_b1, nb1_b4, nb7_b1, nb1_b7, nb7_b4, nb4_b7, nb10_b1, nb1_b10, nb10_b4, nb4_b10, nb10_b7, nb7_b10, nb13_b1, nb1_b13, nb13_b4, nb4_b13, nb13_b7, nb7_b13, nb13_b10, nb10_b13, RR, seval]
  refine awpN_intro fun b16 hn16 => ?_
  have nb16_b1 : b16 ≠ b1 := fun e => by rw [e] at hn16; simp only [nb4_b1, nb1_b4, nb7_b1, nb1_b7, nb10_b1, nb1_b10, nb13_b1, nb1_b13, RR, seval, reduceCtorEq] at hn16
  have nb1_b16 : b1 ≠ b16 := fun e => nb16_b1 e.symm
  have nb16_b4 : b16 ≠ b4 := fun e => by rw [e] at hn16; simp only [nb4_b1, nb1_b4, nb7_b4, nb4_b7, nb10_b4, nb4_b10, nb13_b4, nb4_b13, RR, seval, reduceCtorEq] at hn16
  have nb4_b16 : b4 ≠ b16 := fun e => nb16_b4 e.symm
  have nb16_b7 : b16 ≠ b7 := fun e => by rw [e] at hn16; simp only [nb7_b1, nb1_b7, nb7_b4, nb4_b7, nb10_b7, nb7_b10, nb13_b7, nb7_b13, RR, seval, reduceCtorEq] at hn16
  have nb7_b16 : b7 ≠ b16 := fun e => nb16_b7 e.symm
  have nb16_b10 : b16 ≠ b10 := fun e => by rw [e] at hn16; simp only [nb10_b1, nb1_b10, nb10_b4, nb4_b10, nb10_b7, nb7_b10, nb13_b10, nb10_b13, RR, seval, reduceCtorEq] at hn16
  have nb10_b16 : b10 ≠ b16 := fun e => nb16_b10 e.symm
  have nb16_b13 : b16 ≠ b13 := fun e => by rw [e] at hn16; simp only [nb13_b1, nb1_b13, nb13_b4, nb4_b13, nb13_b7, nb7_b13, nb13_b10, nb10_b13, RR, seval, reduceCtorEq] at hn16
  have nb13_b16 : b13 ≠ b16 := fun e => nb16_b13 e.symm
  simp only [nb4_b1, nb1_b4, nb7_b1, nb1_b7, nb7_b4, nb4_b7, nb10_b1, nb1_b10, nb10_b4, nb4_b10, nb10_b7, nb7_b10, nb13_b1, nb1_b13, nb13_b4, nb4_b13, nb13_b7, nb7_b13, nb13_b10, nb10_b13, nb16_b1, nb1_b16, nb16_b4, nb4_b16, nb16_b7, nb7_b16, nb16_b10, nb10_b16, nb16_b13, nb13_b16, RR, seval]
  refine hK _ _ ?_; clear hK K
  refine awp_seq ?_
  refine awp_seq_k fun K hK => ?_
  refine awp_region rfl ?_
  simp only [nb4_b1, nb1_b4, nb7_b1, nb1_b7, nb7_b4, nb4_b7, nb10_b1, nb1_b10, nb10_b4, nb4_b10, nb10_b7, nb7_b10, nb13_b1, nb1_b13, nb13_b4, nb4_b13, nb13_b7, nb7_b13, nb13_b10, nb10_b13, nb16_b1, nb1_b16, nb16_b4, nb4_b16, nb16_b7, nb7_b16, nb16_b10, nb10_b16, nb16_b13, nb13_b16, RR, seval]
  refine hK _ _ ?_; clear hK K
  refine awp_if false rfl (fun hc => by cases hc) (fun _ => ?_)
  refine awp_skip ?_; try simp only [RR]
  refine awp_seq_k fun K hK => ?_
  refine awp_region rfl ?_
  simp only [nb4_b1, nb1_b4, nb7_b1, nb1_b7, nb7_b4, nb4_b7, nb10_b1, nb1_b10, nb10_b4, nb4_b10, nb10_b7, nb7_b10, nb13_b1, nb1_b13, nb13_b4, nb4_b13, nb13_b7, nb7_b13, nb13_b10, nb10_b13, nb16_b1, nb1_b16, nb16_b4, nb4_b16, nb16_b7, nb7_b16, nb16_b10, nb10_b16, nb16_b13, nb13_b16, apc_nil, apc_cons, RR, seval]
  refine hK _ _ ?_; clear hK K
  refine awp_ret ?_; simp only [bodyQ, aresult, ares, apc_nil, apc_cons, RR, seval]
  refine Gives.pure ?_
  rfl
theorem pgZ_ok : pgZ.ok := ⟨⟨by simp [pgZ, fitL], fun s h => by cases h⟩, by simp [pgZ, fitL], (fun a h => by cases h), by simp [pgZ, fitL], fun f hf => by cases hf⟩
theorem exZ_ok : exZ.ok := ok_mk 0 0 (by simp [i64R]) (by simp [i64R]) u0 f0L okE0
theorem srcP_ok (s : Str) : (srcP s).1.ok := by
  unfold srcP
  cases hl : lexS s with
  | error x => exact pgZ_ok
  | ok T =>
    simp only
    cases hp : progP T 0 with
    | bad m => exact pgZ_ok
    | ok p m =>
      simp only
      have hok := (progP_ok (lexS_sz hl) (Nat.zero_le _) hp).1
      split
      · exact pgZ_ok
      split
      · exact hok
      · exact pgZ_ok
theorem srcE_ok (s : Str) : (srcE s).1.ok := by
  unfold srcE
  cases hl : lexS s with
  | error x => exact exZ_ok
  | ok T =>
    simp only
    cases hp : exprP T 1 0 with
    | bad m => exact exZ_ok
    | ok p m =>
      simp only
      have hok := exprP_ok (lexS_sz hl) hp
      split
      · exact exZ_ok
      split
      · exact hok
      · exact exZ_ok
end Go.Proofs.YtlpeikljipknoaaDoor

namespace Go.Proofs.YtlpeikljipknoaaDoor
open Go.Al
theorem gWords : Tryd.prog.globalNamed "seedcorn/token.words" = some 1 := by kernel_rfl
theorem gSigns : Tryd.prog.globalNamed "seedcorn/token.signs" = some 0 := by kernel_rfl
theorem gWordsT : (Tryd.prog.globals[1]?).map (·.type) = some 121 := by kernel_rfl
theorem gSignsT : (Tryd.prog.globals[0]?).map (·.type) = some 118 := by kernel_rfl
theorem u10 : Tryd.prog.underlying 121 = some (.array 10 9) := by kernel_rfl
theorem u24 : Tryd.prog.underlying 118 = some (.array 24 9) := by kernel_rfl
theorem uStr : Tryd.prog.underlying 9 = some .string := by kernel_rfl
theorem cStr : Tryd.prog.cellsOf 9 = 1 := by kernel_rfl
theorem c10 : Tryd.prog.cellsOf 121 = 10 := by kernel_rfl
theorem c24 : Tryd.prog.cellsOf 118 = 24 := by kernel_rfl
theorem row_strs {S : Seal} {w : World} {b : Nat} : ∀ (ws : List (List UInt8)) (off : Nat), (∀ (i : Nat) s, ws[i]? = some s → w.cell? ⟨b, off + i, none⟩ = some (.string ⟨s.toArray⟩)) → RowRel S w b off (ws.map .str)
  | [], _, _ => by simp only [List.map_nil, RowRel]
  | s :: ws, off, h => by
    simp only [List.map_cons, RowRel]
    refine ⟨⟨_, by simpa using h 0 s rfl, by simp only [VRel]⟩, row_strs ws (off + 1) fun i s' hs => ?_⟩
    rw [show off + 1 + i = off + (i + 1) by omega]
    exact h (i + 1) s' (by simpa using hs)
theorem st_of_laid {W : World} (hL : laidMet Tryd.prog [("seedcorn/token.words", Rows.laid_seedcorn_token_words), ("seedcorn/token.signs", Rows.laid_seedcorn_token_signs)] W) : St env ⟨W, dom emp, old W, [], fun _ => Go.undef⟩ (old W) emp W := by
  obtain ⟨ps, hv, _⟩ := hL
  have v1 : W.var? Tryd.prog "seedcorn/token.words" = some (wordsL.map fun s => Value.string ⟨s.toArray⟩).toArray := strs_of_laid gWords gWordsT u10 uStr cStr c10 hv (List.mem_cons_self)
  have v2 : W.var? Tryd.prog "seedcorn/token.signs" = some (signsL.map fun s => Value.string ⟨s.toArray⟩).toArray := strs_of_laid gSigns gSignsT u24 uStr cStr c24 hv (List.mem_cons_of_mem _ List.mem_cons_self)
  have lt : ∀ {n : String} {g : Nat} {cs : Array Value}, Tryd.prog.globalNamed n = some g → W.var? Tryd.prog n = some cs → g < W.heap.size := fun {n g cs} hg h => by
    simp only [World.var?, hg, Option.bind_some] at h
    split at h
    · rename_i e; exact (Array.getElem?_eq_some_iff.1 e).1
    · cases h
  refine ⟨fun k hk => hk, fun _ h => h, fun k hk => .inl hk, fun b o h => (by cases h), Ext.refl _ _, fun g row h => ?_⟩
  · have key : ∀ {n : String} {g : Nat} {ws : List (List UInt8)}, Tryd.prog.globalNamed n = some g → W.var? Tryd.prog n = some (ws.map fun s => Value.string ⟨s.toArray⟩).toArray → RowRel (old W) W g 0 (ws.map .str) := fun {n g ws} hg h =>
      row_strs ws 0 fun i s hs => by
        rw [World.var?_cell hg h]
        simp [hs]
    simp only [envG, gtab] at h
    split at h
    · cases h; exact ⟨lt gWords v1, key gWords v1⟩
    · cases h; exact ⟨lt gSigns v2, key gSigns v2⟩
    · cases h
end Go.Proofs.YtlpeikljipknoaaDoor
