/- Chapter 17: other parts of the same types, in plain Lean. Chapter 17: the contract of TypingParts. -/
import Derived.Test.YtefjogkgeelbdaaDoorLk
import Derived.Test.YtefjogkgeelbdaaDoorSf
import Derived.Test.YtefjogkgeelbdaaDoorLn
set_option linter.unusedSimpArgs false
set_option linter.unusedVariables false
set_option maxRecDepth 10000
namespace Go.Al
/-- a number's expression -/
def numE (n : Int) : Ex := .mk 1 0 n [] []
/-- a part's stand-in: a number for a word, a comparison for a truth value -/
def stdE (p : Pg) (n : Int) (e : Ex) : Ex := if tyE (wdF p) e = 1 then numE n else .mk 6 15 0 [] [numE n, numE n]
theorem stdE_ty (p : Pg) (W : Str → Bool) (n : Int) (e : Ex) : tyE W (stdE p n e) = if tyE (wdF p) e = 1 then 1 else 2 := by
  unfold stdE
  split
  · simp [numE, tyE]
  · simp [numE, tyE, allT]
theorem stdE_kn (p : Pg) (K : Str → Bool) (n : Int) (e : Ex) : knE K (stdE p n e) = true := by
  unfold stdE
  split
  · simp [numE, knE, knL]
  · simp [numE, knE, knL]
theorem exprT_ok {p : Pg} {e : Ex} (h : (exprT p e).2 = 0) : knE (knF p) e = true ∧ (tyE (wdF p) e = 1 ∨ tyE (wdF p) e = 2) ∧ (exprT p e).1 = tyE (wdF p) e := by
  have ht := tyE_012 (wdF p) e
  simp only [exprT] at h ⊢
  cases hk : knE (knF p) e <;> simp only [hk, if_true, if_false, Bool.false_eq_true] at h ⊢
  · simp at h
  · by_cases h0 : tyE (wdF p) e = 0
    · simp [h0] at h
    · simp only [h0, if_false]
      exact ⟨trivial, by omega, trivial⟩
theorem stdL_ty (p : Pg) (n : Int) (t : Int) : ∀ l : List Ex, (∀ e ∈ l, (exprT p e).2 = 0) → allT (wdF p) (l.map (stdE p n)) t = allT (wdF p) l t
  | [], _ => rfl
  | e :: l, h => by
    have h1 := (exprT_ok (h e (List.mem_cons_self ..))).2.1
    rw [List.map_cons, allT_cons, allT_cons, stdL_ty p n t l fun x hx => h x (List.mem_cons_of_mem _ hx), stdE_ty]
    rcases h1 with h1 | h1 <;> rw [h1] <;> simp
theorem stdL_kn (p : Pg) (n : Int) : ∀ l : List Ex, (∀ e ∈ l, (exprT p e).2 = 0) → knL (knF p) (l.map (stdE p n)) = true ∧ knL (knF p) l = true
  | [], _ => ⟨rfl, by simp only [knL]⟩
  | e :: l, h => by
    have ih := stdL_kn p n l fun x hx => h x (List.mem_cons_of_mem _ hx)
    rw [List.map_cons, knL_cons, knL_cons, stdE_kn, ih.1, ih.2, (exprT_ok (h e (List.mem_cons_self ..))).1]
    exact ⟨rfl, rfl⟩
/-- an expression's type, of its parts' ones -/
def tyK (k o : Int) (w b1 b2 : Bool) : Int := if k = 1 ∨ k = 2 ∨ k = 5 then 1 else if k = 3 then (if b1 = true then 1 else 0) else if k = 4 then (if (w && b1) = true then 1 else 0)
  else if k = 6 then (if b1 = true then (if o = 14 ∨ o = 15 then 2 else 1) else 0) else if k = 7 ∨ k = 8 ∨ k = 9 then (if b2 = true then 2 else 0) else 0
theorem tyE_K (W : Str → Bool) (e : Ex) : tyE W e = tyK e.kind e.op (W e.name) (allT W e.kids 1) (allT W e.kids 2) := tyE_eq W e
/-- THE PLAIN LAW of TypingParts. -/
theorem exprT_parts (p : Pg) (n : Int) (k o m : Int) (s : Str) (l : List Ex) (h : ∀ e ∈ l, (exprT p e).2 = 0) : exprT p (.mk k o m s (l.map (stdE p n))) = exprT p (.mk k o m s l) := by
  have h1 := stdL_kn p n l h
  have a1 := stdL_ty p n 1 l h
  have a2 := stdL_ty p n 2 l h
  have e1 : knE (knF p) (.mk k o m s (l.map (stdE p n))) = knE (knF p) (.mk k o m s l) := by
    rw [knE_eq, knE_eq]
    show ((!decide (k = 4) || knF p s) && knL (knF p) (l.map (stdE p n))) = ((!decide (k = 4) || knF p s) && knL (knF p) l)
    rw [h1.1, h1.2]
  have e2 : tyE (wdF p) (.mk k o m s (l.map (stdE p n))) = tyE (wdF p) (.mk k o m s l) := by
    rw [tyE_K, tyE_K]
    show tyK k o (wdF p s) (allT (wdF p) (l.map (stdE p n)) 1) (allT (wdF p) (l.map (stdE p n)) 2) = tyK k o (wdF p s) (allT (wdF p) l 1) (allT (wdF p) l 2)
    rw [a1, a2]
  simp only [exprT, e1, e2]
end Go.Al

namespace Go.Proofs.YtefjogkgeelbdaaDoor
open Go.Al
theorem numE_row (n : Int) : (numE n).row = [.int .i64 1, .int .i64 0, .int .u32 n, .str [], .isl 5 []] := by simp only [numE, Ex.row, rowsE]
theorem cmpE_row (n : Int) : (Ex.mk 6 15 0 [] [numE n, numE n]).row = [.int .i64 6, .int .i64 15, .int .u32 0, .str [], .isl 5 [[.int .i64 1, .int .i64 0, .int .u32 n, .str [], .isl 5 []], [.int .i64 1, .int .i64 0, .int .u32 n, .str [], .isl 5 []]]] := by simp only [numE, Ex.row, rowsE]
theorem numE_ok {n : Int} (hn : u32R n) : (numE n).ok := ex_ok' 1 0 n (by simp [i64R]) (by simp [i64R]) hn (s := []) (by simp [fitL]) okE_nil
theorem stdE_ok (p : Pg) {n : Int} (hn : u32R n) (e : Ex) : (stdE p n e).ok := by
  unfold stdE
  split
  · exact numE_ok hn
  · exact ex_ok' 6 15 0 (by simp [i64R]) (by simp [i64R]) (by simp [u32R]) (s := []) (by simp [fitL]) (okE_2 (numE_ok hn) (numE_ok hn))
set_option maxHeartbeats 2000000 in
theorem TypingParts_con (p : Pg) (hp : p.ok) (e : Ex) (he : e.ok) (n : Int) (hn : u32R n) : PCon env 9 [p.av, .agg e.row, .int .u32 n] (.bool true) := by
  have hF := Few_con p hp 100 (by omega) (by omega)
  have hw := fewB_few p hp 100 (by omega)
  have hR := fun h => Right_con p hp (fun f hf => by have := (hw h).fs f hf; omega)
  have hL := LeftExprs_con _ [e] 100 20 (Nat.le_refl _) (okE_1 he) (by omega) (by omega) (by omega) (by omega)
  have hX := RightExpr_con e he 1 (by omega) (by omega)
  have hK := fun x (hx : x ∈ e.kids) => pExpr_con p hp x (he.kids.all x hx)
  have h1 := pExpr_con p hp e he
  have h2 : (∀ x ∈ e.kids, (exprT p x).2 = 0) → PCon env 15 [p.av, .agg [.int .i64 e.kind, .int .i64 e.op, .int .u32 e.num, .str e.name, .isl 5 ((e.kids.map (stdE p n)).map Ex.row)]] (.tup [.int .i64 (exprT p e).1, .int .i64 (exprT p e).2]) := fun h => by
    have h2 := pExpr_con p hp (.mk e.kind e.op e.num e.name (e.kids.map (stdE p n))) (ex_ok' _ _ _ he.kind he.op he.num he.name ⟨by have := he.kids.fit; simpa only [fitL, List.length_map] using this, fun x hx => by
      obtain ⟨y, _, rfl⟩ := List.mem_map.1 hx
      exact stdE_ok p hn y⟩)
    rw [exprT_parts p n _ _ _ _ _ h, Ex.row_eq] at h2
    cases e
    exact h2
  have hkl : 0 ≤ leftE [e] 100 20 → e.kids.length ≤ 100 := fun h => by
    have := leftE_sz _ [e] 100 20 (Nat.le_refl _) h
    have h3 := len_szE' e.kids
    have h4 := e.sz_eq
    simp only [szE] at this
    omega
  have hbr := both_raw 6 15 1 0 n [] (.isl 5 []) 1 0 n [] (.isl 5 []) rfl rfl
  have hav : p.av = .agg p.row := rfl
  have hrow : p.row = [.isl 1 (p.vars.map strRow), .isl 2 (p.arrs.map Ar.row), .isl 5 (p.funs.map Fu.row)] := rfl
  rw [List.map_cons, List.map_nil] at hL
  generalize exprT p e = ty at *
  generalize rightX e 1 = RX at *
  generalize leftE [e] 100 20 = le at *
  rw [hav, hrow] at hF h1 h2 hR ⊢
  simp only [hav, hrow] at hK
  rw [e.row_eq] at *
  obtain ⟨LB, zl⟩ : ∃ b, decide (le < 0) = b := ⟨_, rfl⟩
  cases hc : fewB p 100 with
  | false =>
    rw [hc] at hF
    refine con_of 96 [.tmp 6] Tryd.func9 rfl rfl rfl rfl ?_
    refine awp_seq_k fun K hK => ?_
    refine awp_region rfl ?_
    simp only [RR, seval]
    refine awpN_intro fun b3 hn3 => ?_
    simp only [RR, seval]
    refine awpN_intro fun b4 hn4 => ?_
    have nb4_b3 : b4 ≠ b3 := fun e => by rw [e] at hn4; simp only [RR, seval, reduceCtorEq] at hn4
    have nb3_b4 : b3 ≠ b4 := fun e => nb4_b3 e.symm
    simp only [nb4_b3, nb3_b4, RR, seval]
    refine hK _ _ ?_; clear hK K
    refine awp_seq ?_
    refine awp_seq_k fun K hK => ?_
    refine awp_region rfl ?_
    simp only [nb4_b3, nb3_b4, RR, seval]
    refine awpC_pure' (awake_con) ?_
    simp only [nb4_b3, nb3_b4, RR, seval]
    refine hK _ _ ?_; clear hK K
    refine awp_if false rfl (fun hc => by cases hc) (fun _ => ?_)
    refine awp_skip ?_; try simp only [RR]
    refine awp_seq ?_
    refine awp_seq_k fun K hK => ?_
    refine awp_region rfl ?_
    simp only [nb4_b3, nb3_b4, RR, seval]
    all_goals try (refine awpC_pure' (hF) ?_; simp only [nb4_b3, nb3_b4, RR, seval])
    all_goals try ((first | refine awpG_splitN (fun h => ?_) (fun h => ?_) | refine awpG_split (fun h => ?_) (fun h => ?_)) <;> simp only [h, nb4_b3, nb3_b4, RR, seval])
    all_goals try ((first | refine awpG_splitN (fun h => ?_) (fun h => ?_) | refine awpG_split (fun h => ?_) (fun h => ?_)) <;> simp only [h, nb4_b3, nb3_b4, RR, seval])
    all_goals try (refine awpB_sealed ?_; simp only [nb4_b3, nb3_b4, RR, seval])
    all_goals try ((first | refine awpG_splitN (fun h => ?_) (fun h => ?_) | refine awpG_split (fun h => ?_) (fun h => ?_)) <;> simp only [h, nb4_b3, nb3_b4, RR, seval])
    all_goals
      refine hK _ _ ?_; clear hK K
      refine awp_if true rfl (fun _ => ?_) (fun hc => by cases hc)
      refine awp_seq_k fun K hK => ?_
      refine awp_region rfl ?_
      simp only [nb4_b3, nb3_b4, RR, seval]
      refine hK _ _ ?_; clear hK K
      refine awp_ret ?_; simp only [bodyQ, aresult, ares, nb4_b3, nb3_b4, RR, seval]
      refine Gives.pure ?_
      rfl
  | true =>
    rw [hc] at hF
    have hR := hR hc
    generalize rightP p = RP at hR
    clear hw
    cases RP
    · clear hbr
      refine con_of 96 [.tmp 6] Tryd.func9 rfl rfl rfl rfl ?_
      refine awp_seq_k fun K hK => ?_
      refine awp_region rfl ?_
      simp only [RR, seval]
      refine awpN_intro fun b3 hn3 => ?_
      simp only [RR, seval]
      refine awpN_intro fun b4 hn4 => ?_
      have nb4_b3 : b4 ≠ b3 := fun e => by rw [e] at hn4; simp only [RR, seval, reduceCtorEq] at hn4
      have nb3_b4 : b3 ≠ b4 := fun e => nb4_b3 e.symm
      simp only [nb4_b3, nb3_b4, RR, seval]
      refine hK _ _ ?_; clear hK K
      refine awp_seq ?_
      refine awp_seq_k fun K hK => ?_
      refine awp_region rfl ?_
      simp only [nb4_b3, nb3_b4, RR, seval]
      refine awpC_pure' (awake_con) ?_
      simp only [nb4_b3, nb3_b4, RR, seval]
      refine hK _ _ ?_; clear hK K
      refine awp_if false rfl (fun hc => by cases hc) (fun _ => ?_)
      refine awp_skip ?_; try simp only [RR]
      refine awp_seq ?_
      refine awp_seq_k fun K hK => ?_
      refine awp_region rfl ?_
      simp only [nb4_b3, nb3_b4, RR, seval]
      all_goals try (refine awpC_pure' (hF) ?_; simp only [nb4_b3, nb3_b4, RR, seval])
      all_goals try ((first | refine awpG_splitN (fun h => ?_) (fun h => ?_) | refine awpG_split (fun h => ?_) (fun h => ?_)) <;> simp only [h, nb4_b3, nb3_b4, RR, seval])
      all_goals try (refine awpC_pure' (hR) ?_; simp only [nb4_b3, nb3_b4, RR, seval])
      all_goals try ((first | refine awpG_splitN (fun h => ?_) (fun h => ?_) | refine awpG_split (fun h => ?_) (fun h => ?_)) <;> simp only [h, nb4_b3, nb3_b4, RR, seval])
      all_goals try (refine awpB_sealed ?_; simp only [nb4_b3, nb3_b4, RR, seval])
      all_goals try ((first | refine awpG_splitN (fun h => ?_) (fun h => ?_) | refine awpG_split (fun h => ?_) (fun h => ?_)) <;> simp only [h, nb4_b3, nb3_b4, RR, seval])
      all_goals
        refine hK _ _ ?_; clear hK K
        refine awp_if true rfl (fun _ => ?_) (fun hc => by cases hc)
        refine awp_seq_k fun K hK => ?_
        refine awp_region rfl ?_
        simp only [nb4_b3, nb3_b4, RR, seval]
        refine hK _ _ ?_; clear hK K
        refine awp_ret ?_; simp only [bodyQ, aresult, ares, nb4_b3, nb3_b4, RR, seval]
        refine Gives.pure ?_
        rfl
    · cases LB
      · cases RX
        · clear hbr
          refine con_of 96 [.tmp 6] Tryd.func9 rfl rfl rfl rfl ?_
          refine awp_seq_k fun K hK => ?_
          refine awp_region rfl ?_
          simp only [zl, RR, seval]
          refine awpN_intro fun b3 hn3 => ?_
          simp only [zl, RR, seval]
          refine awpN_intro fun b4 hn4 => ?_
          have nb4_b3 : b4 ≠ b3 := fun e => by rw [e] at hn4; simp only [zl, RR, seval, reduceCtorEq] at hn4
          have nb3_b4 : b3 ≠ b4 := fun e => nb4_b3 e.symm
          simp only [nb4_b3, nb3_b4, zl, RR, seval]
          refine hK _ _ ?_; clear hK K
          refine awp_seq ?_
          refine awp_seq_k fun K hK => ?_
          refine awp_region rfl ?_
          simp only [nb4_b3, nb3_b4, zl, RR, seval]
          refine awpC_pure' (awake_con) ?_
          simp only [nb4_b3, nb3_b4, zl, RR, seval]
          refine hK _ _ ?_; clear hK K
          refine awp_if false rfl (fun hc => by cases hc) (fun _ => ?_)
          refine awp_skip ?_; try simp only [RR]
          refine awp_seq ?_
          refine awp_seq_k fun K hK => ?_
          refine awp_region rfl ?_
          simp only [nb4_b3, nb3_b4, zl, RR, seval]
          all_goals try (refine awpC_pure' (hF) ?_; simp only [nb4_b3, nb3_b4, zl, RR, seval])
          all_goals try ((first | refine awpG_splitN (fun h => ?_) (fun h => ?_) | refine awpG_split (fun h => ?_) (fun h => ?_)) <;> simp only [h, nb4_b3, nb3_b4, zl, RR, seval])
          all_goals try (refine awpC_pure' (hR) ?_; simp only [nb4_b3, nb3_b4, zl, RR, seval])
          all_goals try ((first | refine awpG_splitN (fun h => ?_) (fun h => ?_) | refine awpG_split (fun h => ?_) (fun h => ?_)) <;> simp only [h, nb4_b3, nb3_b4, zl, RR, seval])
          all_goals try (refine awpB_sealed ?_; simp only [nb4_b3, nb3_b4, zl, RR, seval])
          all_goals try (refine awpC_pure' (hL) ?_; simp only [nb4_b3, nb3_b4, zl, RR, seval])
          all_goals try ((first | refine awpG_splitN (fun h => ?_) (fun h => ?_) | refine awpG_split (fun h => ?_) (fun h => ?_)) <;> simp only [h, nb4_b3, nb3_b4, zl, RR, seval])
          all_goals try (refine awpC_pure' (hX) ?_; simp only [nb4_b3, nb3_b4, zl, RR, seval])
          all_goals
            refine hK _ _ ?_; clear hK K
            refine awp_if true rfl (fun _ => ?_) (fun hc => by cases hc)
            refine awp_seq_k fun K hK => ?_
            refine awp_region rfl ?_
            simp only [nb4_b3, nb3_b4, zl, RR, seval]
            refine hK _ _ ?_; clear hK K
            refine awp_ret ?_; simp only [bodyQ, aresult, ares, nb4_b3, nb3_b4, zl, RR, seval]
            refine Gives.pure ?_
            rfl
        · have hle := hkl (by have := of_decide_eq_false zl; omega)
          clear hkl
          refine con_of 96 [.tmp 6] Tryd.func9 rfl rfl rfl rfl ?_
          refine awp_seq_k fun K hK => ?_
          refine awp_region rfl ?_
          simp only [zl, List.length_map, RR, seval]
          refine awpN_intro fun b3 hn3 => ?_
          simp only [zl, List.length_map, RR, seval]
          refine awpN_intro fun b4 hn4 => ?_
          have nb4_b3 : b4 ≠ b3 := fun e => by rw [e] at hn4; simp only [zl, List.length_map, RR, seval, reduceCtorEq] at hn4
          have nb3_b4 : b3 ≠ b4 := fun e => nb4_b3 e.symm
          simp only [nb4_b3, nb3_b4, zl, List.length_map, RR, seval]
          refine hK _ _ ?_; clear hK K
          refine awp_seq ?_
          refine awp_seq_k fun K hK => ?_
          refine awp_region rfl ?_
          simp only [nb4_b3, nb3_b4, zl, List.length_map, RR, seval]
          refine awpC_pure' (awake_con) ?_
          simp only [nb4_b3, nb3_b4, zl, List.length_map, RR, seval]
          refine hK _ _ ?_; clear hK K
          refine awp_if false rfl (fun hc => by cases hc) (fun _ => ?_)
          refine awp_skip ?_; try simp only [RR]
          refine awp_seq ?_
          refine awp_seq_k fun K hK => ?_
          refine awp_region rfl ?_
          simp only [nb4_b3, nb3_b4, zl, List.length_map, RR, seval]
          all_goals try (refine awpC_pure' (hF) ?_; simp only [nb4_b3, nb3_b4, zl, List.length_map, RR, seval])
          all_goals try ((first | refine awpG_splitN (fun h => ?_) (fun h => ?_) | refine awpG_split (fun h => ?_) (fun h => ?_)) <;> simp only [h, nb4_b3, nb3_b4, zl, List.length_map, RR, seval])
          all_goals try (refine awpC_pure' (hR) ?_; simp only [nb4_b3, nb3_b4, zl, List.length_map, RR, seval])
          all_goals try ((first | refine awpG_splitN (fun h => ?_) (fun h => ?_) | refine awpG_split (fun h => ?_) (fun h => ?_)) <;> simp only [h, nb4_b3, nb3_b4, zl, List.length_map, RR, seval])
          all_goals try (refine awpB_sealed ?_; simp only [nb4_b3, nb3_b4, zl, List.length_map, RR, seval])
          all_goals try (refine awpC_pure' (hL) ?_; simp only [nb4_b3, nb3_b4, zl, List.length_map, RR, seval])
          all_goals try ((first | refine awpG_splitN (fun h => ?_) (fun h => ?_) | refine awpG_split (fun h => ?_) (fun h => ?_)) <;> simp only [h, nb4_b3, nb3_b4, zl, List.length_map, RR, seval])
          all_goals try (refine awpC_pure' (hX) ?_; simp only [nb4_b3, nb3_b4, zl, List.length_map, RR, seval])
          all_goals
            refine hK _ _ ?_; clear hK K
            refine awp_if false rfl (fun hc => by cases hc) (fun _ => ?_)
            refine awp_skip ?_; try simp only [RR]
            refine awp_seq_k fun K hK => ?_
            refine awp_region rfl ?_
            simp only [nb4_b3, nb3_b4, zl, List.length_map, RR, seval]
            refine awpN_intro fun b7 hn7 => ?_
            have nb7_b3 : b7 ≠ b3 := fun e => by rw [e] at hn7; simp only [nb4_b3, nb3_b4, zl, List.length_map, RR, seval, reduceCtorEq] at hn7
            have nb3_b7 : b3 ≠ b7 := fun e => nb7_b3 e.symm
            have nb7_b4 : b7 ≠ b4 := fun e => by rw [e] at hn7; simp only [nb4_b3, nb3_b4, zl, List.length_map, RR, seval, reduceCtorEq] at hn7
            have nb4_b7 : b4 ≠ b7 := fun e => nb7_b4 e.symm
            simp only [nb4_b3, nb3_b4, nb7_b3, nb3_b7, nb7_b4, nb4_b7, zl, List.length_map, RR, seval]
            refine hK _ _ ?_; clear hK K
            refine awp_name fun F1 M1 hfr hH => ?_
            have g3 := hfr 3
            have g4 := hfr 4
            have g6 := hfr 6
            have g7 := hfr 7
            have gb3 := hH b3
            have gb4 := hH b4
            have gb7 := hH b7
            try simp only [nb4_b3, nb3_b4, nb7_b3, nb3_b7, nb7_b4, nb4_b7, zl, List.length_map, RR, seval] at g3 g4 g6 g7 gb3 gb4 gb7
            have f3 := g3; clear g3
            have f4 := g4; clear g4
            have f6 := g6; clear g6
            have f7 := g7; clear g7
            have hb3 := gb3; clear gb3
            have hb4 := gb4; clear gb4
            have hb7 := gb7; clear gb7
            clear hfr hH
            refine awp_weak1 hb7 (SubR.last (Sub.nsl 5) [.int .i64 1, .int .i64 0, .int .u32 n, .str []]) ?_
            refine awp_seq_k fun K hK => ?_
            refine awp_region rfl ?_
            simp only [f3, f4, f6, f7, hb3, hb4, hb7, nb4_b3, nb3_b4, nb7_b3, nb3_b7, nb7_b4, nb4_b7, zl, List.length_map, RR, seval]
            refine awpN_intro fun b8 hn8 => ?_
            have nb8_b3 : b8 ≠ b3 := fun e => by rw [e] at hn8; simp only [f3, f4, f6, f7, hb3, hb4, hb7, nb4_b3, nb3_b4, nb7_b3, nb3_b7, nb7_b4, nb4_b7, zl, List.length_map, RR, seval, reduceCtorEq] at hn8
            have nb3_b8 : b3 ≠ b8 := fun e => nb8_b3 e.symm
            have nb8_b4 : b8 ≠ b4 := fun e => by rw [e] at hn8; simp only [f3, f4, f6, f7, hb3, hb4, hb7, nb4_b3, nb3_b4, nb7_b3, nb3_b7, nb7_b4, nb4_b7, zl, List.length_map, RR, seval, reduceCtorEq] at hn8
            have nb4_b8 : b4 ≠ b8 := fun e => nb8_b4 e.symm
            have nb8_b7 : b8 ≠ b7 := fun e => by rw [e] at hn8; simp only [f3, f4, f6, f7, hb3, hb4, hb7, nb4_b3, nb3_b4, nb7_b3, nb3_b7, nb7_b4, nb4_b7, zl, List.length_map, RR, seval, reduceCtorEq] at hn8
            have nb7_b8 : b7 ≠ b8 := fun e => nb8_b7 e.symm
            have nb8_b7 : b8 ≠ b7 := fun e => by rw [e] at hn8; simp only [f3, f4, f6, f7, hb3, hb4, hb7, nb4_b3, nb3_b4, nb7_b3, nb3_b7, nb7_b4, nb4_b7, zl, List.length_map, RR, seval, reduceCtorEq] at hn8
            have nb7_b8 : b7 ≠ b8 := fun e => nb8_b7 e.symm
            simp only [f3, f4, f6, f7, hb3, hb4, hb7, nb4_b3, nb3_b4, nb7_b3, nb3_b7, nb7_b4, nb4_b7, nb8_b3, nb3_b8, nb8_b4, nb4_b8, nb8_b7, nb7_b8, nb8_b7, nb7_b8, zl, List.length_map, RR, seval]
            refine hK _ _ ?_; clear hK K
            refine awp_seq_k fun K hK => ?_
            refine awp_region rfl ?_
            simp only [f3, f4, f6, f7, hb3, hb4, hb7, nb4_b3, nb3_b4, nb7_b3, nb3_b7, nb7_b4, nb4_b7, nb8_b3, nb3_b8, nb8_b4, nb4_b8, nb8_b7, nb7_b8, nb8_b7, nb7_b8, zl, List.length_map, RR, seval]
            refine hK _ _ ?_; clear hK K
            refine awp_seq ?_
            refine awp_seq_k fun K hK => ?_
            refine awp_region rfl ?_
            simp only [f3, f4, f6, f7, hb3, hb4, hb7, nb4_b3, nb3_b4, nb7_b3, nb3_b7, nb7_b4, nb4_b7, nb8_b3, nb3_b8, nb8_b4, nb4_b8, nb8_b7, nb7_b8, nb8_b7, nb7_b8, zl, List.length_map, RR, seval]
            refine hK _ _ ?_; clear hK K
            skip
            refine awp_name fun F2 M2 hfr hH => ?_
            have g3 := hfr 3
            have g4 := hfr 4
            have g6 := hfr 6
            have g7 := hfr 7
            have g8 := hfr 8
            have g9 := hfr 9
            have gb3 := hH b3
            have gb4 := hH b4
            have gb7 := hH b7
            have gb8 := hH b8
            try simp only [f3, f4, f6, f7, hb3, hb4, hb7, nb4_b3, nb3_b4, nb7_b3, nb3_b7, nb7_b4, nb4_b7, nb8_b3, nb3_b8, nb8_b4, nb4_b8, nb8_b7, nb7_b8, nb8_b7, nb7_b8, zl, List.length_map, RR, seval] at g3 g4 g6 g7 g8 g9 gb3 gb4 gb7 gb8
            have f3 := g3; clear g3
            have f4 := g4; clear g4
            have f6 := g6; clear g6
            have f7 := g7; clear g7
            have f8 := g8; clear g8
            have f9 := g9; clear g9
            have hb3 := gb3; clear gb3
            have hb4 := gb4; clear gb4
            have hb7 := gb7; clear gb7
            have hb8 := gb8; clear gb8
            clear hfr hH
            refine awp_block ?_
            refine awp_each [3, 4, 7, 8] (e.kids.length) (fun k fr M => fr 9 = .int .i64 (k : Nat) ∧ M b3 = M2 b3 ∧ M b4 = M2 b4 ∧ M b7 = M2 b7 ∧ ∃ v, M b8 = some (.rows 5 [[.int .i64 e.kind, .int .i64 e.op, .int .u32 e.num, .str e.name, v]]) ∧ OwnL 5 v (((e.kids.take k).map (stdE p n)).map Ex.row) M ∧ Al.off v b4 ∧ Al.off v b7 ∧ Al.off v b8 ∧ ∀ x ∈ e.kids.take k, (exprT p x).2 = 0) ⟨f9, rfl, rfl, rfl, .nsl, hb8, .inl ⟨rfl, rfl⟩, (fun _ _ h => by cases h), (fun _ _ h => by cases h), (fun _ _ h => by cases h), (fun x hx => by simp at hx)⟩ ?_
            rintro k F3 M3 hk0 ⟨fx, gb3, gb4, gb7, v8, hb8, hown, ho4, ho7, ho8, hkz⟩ agx K0 hK0
            have f3 := (agx 3 rfl).trans f3
            have f4 := (agx 4 rfl).trans f4
            have f7 := (agx 7 rfl).trans f7
            have f8 := (agx 8 rfl).trans f8
            have f9 := fx; clear fx
            have hb3 := gb3.trans hb3
            have hb4 := gb4.trans hb4
            have hb7 := gb7.trans hb7
            have ag0 := agree.refl [3, 4, 7, 8] F3
            have e0_b3 := gb3; clear gb3
            have e0_b4 := gb4; clear gb4
            have e0_b7 := gb7; clear gb7
            clear agx
            refine awp_seq ?_
            refine awp_seq_k fun K hK => ?_
            refine awp_region rfl ?_
            simp only [f3, f4, f7, f8, f9, hb3, hb4, hb7, hb8, nb4_b3, nb3_b4, nb7_b3, nb3_b7, nb7_b4, nb4_b7, nb8_b3, nb3_b8, nb8_b4, nb4_b8, nb8_b7, nb7_b8, nb8_b7, nb7_b8, zl, List.length_map, RR, seval]
            refine hK _ _ ?_; clear hK K
            refine awp_if _ rfl (fun hc => ?_) (fun hc => ?_)
            · have hlt0 : k < e.kids.length := by have := of_decide_eq_true hc; omega
              clear hc
              have hg := getE (List.getElem?_eq_getElem hlt0)
              have htk : e.kids.take (k + 1) = e.kids.take k ++ [e.kids[k]] := List.take_succ_eq_append_getElem hlt0
              have htl : (e.kids.take k).length ≤ e.kids.length := by rw [List.length_take]; omega
              have hk := hK _ (List.getElem_mem hlt0)
              generalize e.kids[k] = x at hg hk htk
              rw [x.row_eq] at hk
              have hok := exprT_ok (p := p) (e := x)
              have hso : stdE p n x = if tyE (wdF p) x = 1 then numE n else .mk 6 15 0 [] [numE n, numE n] := rfl
              have hkz' : (exprT p x).2 = 0 → ∀ y ∈ e.kids.take (k + 1), (exprT p y).2 = 0 := fun h0 y hy => by
                rw [htk] at hy
                rcases List.mem_append.1 hy with hy | hy
                · exact hkz y hy
                · rw [List.mem_singleton.1 hy]; exact h0
              generalize exprT p x = tx at *
              refine awp_skip ?_; try simp only [RR]
              refine awp_seq ?_
              refine awp_block ?_
              refine awp_seq_k fun K hK => ?_
              refine awp_region_draw2 (fun x => x ≠ b3 ∧ x ≠ b4 ∧ x ≠ b7 ∧ x ≠ b8) [(0, 1), (1, 3), (2, 1), (3, 3), (4, 3), (5, 1), (6, 1), (7, 3), (8, 3), (9, 3), (10, 3), (11, 3)] [] draws (by kernel_rfl) rfl rfl ?_
              simp only [emitF, markOf, touch_mp, touch_imp, touch_nmp, ne_eq, not_true_eq_false, and_false, false_and, not_false_eq_true, f3, f4, f7, f8, f9, hb3, hb4, hb7, hb8, nb4_b3, nb3_b4, nb7_b3, nb3_b7, nb7_b4, nb4_b7, nb8_b3, nb3_b8, nb8_b4, nb4_b8, nb8_b7, nb7_b8, nb8_b7, nb7_b8, zl, List.length_map, hg, RR, seval]
              refine awpC_pure' (hk) ?_
              simp only [emitF, markOf, touch_mp, touch_imp, touch_nmp, ne_eq, not_true_eq_false, and_false, false_and, not_false_eq_true, f3, f4, f7, f8, f9, hb3, hb4, hb7, hb8, nb4_b3, nb3_b4, nb7_b3, nb3_b7, nb7_b4, nb4_b7, nb8_b3, nb3_b8, nb8_b4, nb4_b8, nb8_b7, nb7_b8, nb8_b7, nb7_b8, zl, List.length_map, hg, RR, seval]
              refine hK _ _ ?_; clear hK K
              refine awp_seq ?_
              refine awp_seq_k fun K hK => ?_
              refine awp_region rfl ?_
              simp only [f3, f4, f7, f8, f9, hb3, hb4, hb7, hb8, nb4_b3, nb3_b4, nb7_b3, nb3_b7, nb7_b4, nb4_b7, nb8_b3, nb3_b8, nb8_b4, nb4_b8, nb8_b7, nb7_b8, nb8_b7, nb7_b8, zl, List.length_map, hg, RR, seval]
              refine hK _ _ ?_; clear hK K
              refine awp_if _ rfl (fun hc12 => ?_) (fun hc12 => ?_)
              · try (cases hc12; done)
                all_goals
                  refine awp_seq_k fun K hK => ?_
                  refine awp_region rfl ?_
                  simp only [f3, f4, f7, f8, f9, hb3, hb4, hb7, hb8, nb4_b3, nb3_b4, nb7_b3, nb3_b7, nb7_b4, nb4_b7, nb8_b3, nb3_b8, nb8_b4, nb4_b8, nb8_b7, nb7_b8, nb8_b7, nb7_b8, zl, List.length_map, hg, RR, seval]
                  refine hK _ _ ?_; clear hK K
                  refine awp_ret ?_; simp only [bodyQ, aresult, ares, f3, f4, f7, f8, f9, hb3, hb4, hb7, hb8, nb4_b3, nb3_b4, nb7_b3, nb3_b7, nb7_b4, nb4_b7, nb8_b3, nb3_b8, nb8_b4, nb4_b8, nb8_b7, nb7_b8, nb8_b7, nb7_b8, zl, List.length_map, hg, RR, seval]
                  refine Gives.pure ?_
                  rfl
              · try (cases hc12; done)
                all_goals
                  have hz0 : tx.2 = 0 := by simpa using hc12
                  have hkz' := hkz' hz0
                  have hok := (hok hz0).2
                  rw [← hok.2] at hso
                  refine awp_skip ?_; try simp only [RR]
                  refine awp_seq_k fun K hK => ?_
                  refine awp_region rfl ?_
                  simp only [f3, f4, f7, f8, f9, hb3, hb4, hb7, hb8, nb4_b3, nb3_b4, nb7_b3, nb3_b7, nb7_b4, nb4_b7, nb8_b3, nb3_b8, nb8_b4, nb4_b8, nb8_b7, nb7_b8, nb8_b7, nb7_b8, zl, List.length_map, hg, RR, seval]
                  refine hK _ _ ?_; clear hK K
                  refine awp_if _ rfl (fun hc14 => ?_) (fun hc14 => ?_)
                  · have hso : stdE p n x = numE n := by rw [hso, if_pos (of_decide_eq_true hc14)]
                    refine awp_region rfl ?_
                    simp only [f3, f4, f7, f8, f9, hb3, hb4, hb7, hb8, nb4_b3, nb3_b4, nb7_b3, nb3_b7, nb7_b4, nb4_b7, nb8_b3, nb3_b8, nb8_b4, nb4_b8, nb8_b7, nb7_b8, nb8_b7, nb7_b8, zl, List.length_map, hg, RR, seval]
                    refine awpB_sealed ?_
                    simp only [f3, f4, f7, f8, f9, hb3, hb4, hb7, hb8, nb4_b3, nb3_b4, nb7_b3, nb3_b7, nb7_b4, nb4_b7, nb8_b3, nb3_b8, nb8_b4, nb4_b8, nb8_b7, nb7_b8, nb8_b7, nb7_b8, zl, List.length_map, hg, RR, seval]
                    refine awpA_ownF hown (by simp only [List.length_map, List.length_cons, List.length_nil]; omega) (fun b e => by first | trivial | (repeat' apply And.intro) <;> (intro c; subst c; first | exact ho4 _ _ e | exact ho7 _ _ e | exact ho8 _ _ e | exact hown.nb' hb3 (by decide) e)) fun v15 M4 hown' hk' hg' => ?_
                    have ho4' := hg' b4 ho4 (by rw [hb4]; exact Option.some_ne_none _)
                    have ho7' := hg' b7 ho7 (by rw [hb7]; exact Option.some_ne_none _)
                    have ho8' := hg' b8 ho8 (by rw [hb8]; exact Option.some_ne_none _)
                    simp only [f3, f4, f7, f8, f9, hb3, hb4, hb7, hb8, nb4_b3, nb3_b4, nb7_b3, nb3_b7, nb7_b4, nb4_b7, nb8_b3, nb3_b8, nb8_b4, nb4_b8, nb8_b7, nb7_b8, nb8_b7, nb7_b8, zl, List.length_map, hg, RR, seval]
                    have gb3 := hk' b3 _ hb3 (by first | exact (hown).nb' hb3 (by decide) | exact ho3 _ _ | assumption | (intro e; simp_all))
                    have e0_b3 := (gb3.trans hb3.symm).trans e0_b3
                    have hb3 := gb3; clear gb3
                    have gb4 := hk' b4 _ hb4 (by first | exact (hown).nb' hb4 (by decide) | exact ho4 _ _ | assumption | (intro e; simp_all))
                    have e0_b4 := (gb4.trans hb4.symm).trans e0_b4
                    have hb4 := gb4; clear gb4
                    have gb7 := hk' b7 _ hb7 (by first | exact (hown).nb' hb7 (by decide) | exact ho7 _ _ | assumption | (intro e; simp_all))
                    have e0_b7 := (gb7.trans hb7.symm).trans e0_b7
                    have hb7 := gb7; clear gb7
                    have gb8 := hk' b8 _ hb8 (by first | exact (hown).nb' hb8 (by decide) | exact ho8 _ _ | assumption | (intro e; simp_all))
                    have hb8 := gb8; clear gb8
                    have hce := hown'.cells; have hoe := hown'.one1
                    try simp only [hce, hoe, Option.bind_some, List.drop, f3, f4, f7, f8, f9, hb3, hb4, hb7, hb8, nb4_b3, nb3_b4, nb7_b3, nb3_b7, nb7_b4, nb4_b7, nb8_b3, nb3_b8, nb8_b4, nb4_b8, nb8_b7, nb7_b8, nb8_b7, nb7_b8, zl, List.length_map, hg, RR, seval]
                    refine awp_region rfl ?_
                    simp only [f3, f4, f7, f8, f9, hb3, hb4, hb7, hb8, nb4_b3, nb3_b4, nb7_b3, nb3_b7, nb7_b4, nb4_b7, nb8_b3, nb3_b8, nb8_b4, nb4_b8, nb8_b7, nb7_b8, nb8_b7, nb7_b8, zl, List.length_map, hg, RR, seval]
                    try rw [IntWalk.i64_in _ (by omega)]
                    refine hK0 _ _ hlt0 ⟨by first | rfl | (simp only [upd_app, seval]; rfl), (by first | exact e0_b3 | (simp only [nb4_b3, nb3_b4, nb7_b3, nb3_b7, nb7_b4, nb4_b7, nb8_b3, nb3_b8, nb8_b4, nb4_b8, nb8_b7, nb7_b8, nb8_b7, nb7_b8, upd_app, seval]; first | done | exact e0_b3)), (by first | exact e0_b4 | (simp only [nb4_b3, nb3_b4, nb7_b3, nb3_b7, nb7_b4, nb4_b7, nb8_b3, nb3_b8, nb8_b4, nb4_b8, nb8_b7, nb7_b8, nb8_b7, nb7_b8, upd_app, seval]; first | done | exact e0_b4)), (by first | exact e0_b7 | (simp only [nb4_b3, nb3_b4, nb7_b3, nb3_b7, nb7_b4, nb4_b7, nb8_b3, nb3_b8, nb8_b4, nb4_b8, nb8_b7, nb7_b8, nb8_b7, nb7_b8, upd_app, seval]; first | done | exact e0_b7)), _, upd_same _ _ _, (by rw [htk, List.map_append, List.map_append, List.map_singleton, List.map_singleton, hso]; (first | rw [numE_row] | rw [cmpE_row]); exact hown'.off ho8' _), ho4', ho7', ho8', hkz'⟩ (by repeat (first | exact ag0 | refine agree.upd rfl ?_))
                  · have hso : stdE p n x = .mk 6 15 0 [] [numE n, numE n] := by rw [hso, if_neg (of_decide_eq_false hc14)]
                    refine awp_region_draw2 (fun x => x ≠ b3 ∧ x ≠ b4 ∧ x ≠ b7 ∧ x ≠ b8) [(0, 3), (1, 0), (2, 1), (3, 1), (4, 1), (5, 2), (6, 1), (7, 3)] [(8, 1)] draws (by kernel_rfl) rfl rfl ?_
                    simp only [emitF, markOf, touch_mp, touch_imp, touch_nmp, ne_eq, not_true_eq_false, and_false, false_and, not_false_eq_true, f3, f4, f7, f8, f9, hb3, hb4, hb7, hb8, nb4_b3, nb3_b4, nb7_b3, nb3_b7, nb7_b4, nb4_b7, nb8_b3, nb3_b8, nb8_b4, nb4_b8, nb8_b7, nb7_b8, nb8_b7, nb7_b8, zl, List.length_map, hg, RR, seval]
                    refine awpC_pure' (hbr) ?_
                    simp only [emitF, markOf, touch_mp, touch_imp, touch_nmp, ne_eq, not_true_eq_false, and_false, false_and, not_false_eq_true, f3, f4, f7, f8, f9, hb3, hb4, hb7, hb8, nb4_b3, nb3_b4, nb7_b3, nb3_b7, nb7_b4, nb4_b7, nb8_b3, nb3_b8, nb8_b4, nb4_b8, nb8_b7, nb7_b8, nb8_b7, nb7_b8, zl, List.length_map, hg, RR, seval]
                    refine awpA_ownF hown (by simp only [List.length_map, List.length_cons, List.length_nil]; omega) (fun b e => by first | trivial | (repeat' apply And.intro) <;> (intro c; subst c; first | exact ho4 _ _ e | exact ho7 _ _ e | exact ho8 _ _ e | exact hown.nb' hb3 (by decide) e)) fun v16 M5 hown' hk' hg' => ?_
                    have ho4' := hg' b4 ho4 (by rw [hb4]; exact Option.some_ne_none _)
                    have ho7' := hg' b7 ho7 (by rw [hb7]; exact Option.some_ne_none _)
                    have ho8' := hg' b8 ho8 (by rw [hb8]; exact Option.some_ne_none _)
                    simp only [emitF, markOf, touch_mp, touch_imp, touch_nmp, ne_eq, not_true_eq_false, and_false, false_and, not_false_eq_true, f3, f4, f7, f8, f9, hb3, hb4, hb7, hb8, nb4_b3, nb3_b4, nb7_b3, nb3_b7, nb7_b4, nb4_b7, nb8_b3, nb3_b8, nb8_b4, nb4_b8, nb8_b7, nb7_b8, nb8_b7, nb7_b8, zl, List.length_map, hg, RR, seval]
                    have gb3 := hk' b3 _ hb3 (by first | exact (hown).nb' hb3 (by decide) | exact ho3 _ _ | assumption | (intro e; simp_all))
                    have e0_b3 := (gb3.trans hb3.symm).trans e0_b3
                    have hb3 := gb3; clear gb3
                    have gb4 := hk' b4 _ hb4 (by first | exact (hown).nb' hb4 (by decide) | exact ho4 _ _ | assumption | (intro e; simp_all))
                    have e0_b4 := (gb4.trans hb4.symm).trans e0_b4
                    have hb4 := gb4; clear gb4
                    have gb7 := hk' b7 _ hb7 (by first | exact (hown).nb' hb7 (by decide) | exact ho7 _ _ | assumption | (intro e; simp_all))
                    have e0_b7 := (gb7.trans hb7.symm).trans e0_b7
                    have hb7 := gb7; clear gb7
                    have gb8 := hk' b8 _ hb8 (by first | exact (hown).nb' hb8 (by decide) | exact ho8 _ _ | assumption | (intro e; simp_all))
                    have hb8 := gb8; clear gb8
                    have hce := hown'.cells; have hoe := hown'.one1
                    try simp only [emitF, markOf, touch_mp, touch_imp, touch_nmp, ne_eq, not_true_eq_false, and_false, false_and, not_false_eq_true, hce, hoe, Option.bind_some, List.drop, f3, f4, f7, f8, f9, hb3, hb4, hb7, hb8, nb4_b3, nb3_b4, nb7_b3, nb3_b7, nb7_b4, nb4_b7, nb8_b3, nb3_b8, nb8_b4, nb4_b8, nb8_b7, nb7_b8, nb8_b7, nb7_b8, zl, List.length_map, hg, RR, seval]
                    refine awp_region rfl ?_
                    simp only [f3, f4, f7, f8, f9, hb3, hb4, hb7, hb8, nb4_b3, nb3_b4, nb7_b3, nb3_b7, nb7_b4, nb4_b7, nb8_b3, nb3_b8, nb8_b4, nb4_b8, nb8_b7, nb7_b8, nb8_b7, nb7_b8, zl, List.length_map, hg, RR, seval]
                    try rw [IntWalk.i64_in _ (by omega)]
                    refine hK0 _ _ hlt0 ⟨by first | rfl | (simp only [upd_app, seval]; rfl), (by first | exact e0_b3 | (simp only [nb4_b3, nb3_b4, nb7_b3, nb3_b7, nb7_b4, nb4_b7, nb8_b3, nb3_b8, nb8_b4, nb4_b8, nb8_b7, nb7_b8, nb8_b7, nb7_b8, upd_app, seval]; first | done | exact e0_b3)), (by first | exact e0_b4 | (simp only [nb4_b3, nb3_b4, nb7_b3, nb3_b7, nb7_b4, nb4_b7, nb8_b3, nb3_b8, nb8_b4, nb4_b8, nb8_b7, nb7_b8, nb8_b7, nb7_b8, upd_app, seval]; first | done | exact e0_b4)), (by first | exact e0_b7 | (simp only [nb4_b3, nb3_b4, nb7_b3, nb3_b7, nb7_b4, nb4_b7, nb8_b3, nb3_b8, nb8_b4, nb4_b8, nb8_b7, nb7_b8, nb8_b7, nb7_b8, upd_app, seval]; first | done | exact e0_b7)), _, upd_same _ _ _, (by rw [htk, List.map_append, List.map_append, List.map_singleton, List.map_singleton, hso]; (first | rw [numE_row] | rw [cmpE_row]); exact hown'.off ho8' _), ho4', ho7', ho8', hkz'⟩ (by repeat (first | exact ag0 | refine agree.upd rfl ?_))
            · have hkn0 : k = e.kids.length := by have := of_decide_eq_false hc; omega
              clear hc
              rw [hkn0, List.take_length] at hown hkz
              refine awp_exit ?_; simp only [RR, seval]
              refine awp_name fun F6 M6 hfr hH => ?_
              have g3 := hfr 3
              have g4 := hfr 4
              have g6 := hfr 6
              have g8 := hfr 8
              have gb3 := hH b3
              have gb4 := hH b4
              have gb7 := hH b7
              have gb8 := hH b8
              try simp only [f3, f4, f7, f8, f9, hb3, hb4, hb7, hb8, nb4_b3, nb3_b4, nb7_b3, nb3_b7, nb7_b4, nb4_b7, nb8_b3, nb3_b8, nb8_b4, nb4_b8, nb8_b7, nb7_b8, nb8_b7, nb7_b8, zl, List.length_map, RR, seval] at g3 g4 g6 g8 gb3 gb4 gb7 gb8
              have hown := hown.same hH
              have f3 := g3; clear g3
              have f4 := g4; clear g4
              have f6 := g6; clear g6
              have f8 := g8; clear g8
              have hb3 := gb3; clear gb3
              have hb4 := gb4; clear gb4
              have hb7 := gb7; clear gb7
              have hb8 := gb8; clear gb8
              clear hfr hH
              refine awp_sealF (pre := [.int .i64 e.kind, .int .i64 e.op, .int .u32 e.num, .str e.name]) hown hb8 rfl ho8 fun F8 M8 hfF hb8' hbF => ?_
              have f3 := (hfF 3 (by rw [f3]; rfl)).trans f3
              have f4 := (hfF 4 (by rw [f4]; rfl)).trans f4
              have f8 := (hfF 8 (by rw [f8]; rfl)).trans f8
              have hb3 := hbF b3 _ _ nb3_b8 (hown.offsz hb3 (by decide)) rfl hb3
              have hb4 := hbF b4 _ _ nb4_b8 ho4 rfl hb4
              have hb8 : M8 b8 = some (.rows 5 [[.int .i64 e.kind, .int .i64 e.op, .int .u32 e.num, .str e.name, .isl 5 ((e.kids.map (stdE p n)).map Ex.row)]]) := hb8'
              refine awp_seq_k fun K hK => ?_
              refine awp_region rfl ?_
              simp only [f3, f4, f6, f8, hb3, hb4, hb8, nb4_b3, nb3_b4, nb7_b3, nb3_b7, nb7_b4, nb4_b7, nb8_b3, nb3_b8, nb8_b4, nb4_b8, nb8_b7, nb7_b8, nb8_b7, nb7_b8, zl, List.length_map, RR, seval]
              refine awpC_pure' (h1) ?_
              simp only [f3, f4, f6, f8, hb3, hb4, hb8, nb4_b3, nb3_b4, nb7_b3, nb3_b7, nb7_b4, nb4_b7, nb8_b3, nb3_b8, nb8_b4, nb4_b8, nb8_b7, nb7_b8, nb8_b7, nb7_b8, zl, List.length_map, RR, seval]
              refine hK _ _ ?_; clear hK K
              refine awp_seq_k fun K hK => ?_
              refine awp_region rfl ?_
              simp only [f3, f4, f6, f8, hb3, hb4, hb8, nb4_b3, nb3_b4, nb7_b3, nb3_b7, nb7_b4, nb4_b7, nb8_b3, nb3_b8, nb8_b4, nb4_b8, nb8_b7, nb7_b8, nb8_b7, nb7_b8, zl, List.length_map, RR, seval]
              refine awpC_pure' (h2 hkz) ?_
              simp only [f3, f4, f6, f8, hb3, hb4, hb8, nb4_b3, nb3_b4, nb7_b3, nb3_b7, nb7_b4, nb4_b7, nb8_b3, nb3_b8, nb8_b4, nb4_b8, nb8_b7, nb7_b8, nb8_b7, nb7_b8, zl, List.length_map, RR, seval]
              refine hK _ _ ?_; clear hK K
              refine awp_seq_k fun K hK => ?_
              refine awp_region rfl ?_
              simp only [f3, f4, f6, f8, hb3, hb4, hb8, nb4_b3, nb3_b4, nb7_b3, nb3_b7, nb7_b4, nb4_b7, nb8_b3, nb3_b8, nb8_b4, nb4_b8, nb8_b7, nb7_b8, nb8_b7, nb7_b8, zl, List.length_map, RR, seval]
              repeat' ((first | refine awpG_splitN (fun h => ?_) (fun h => ?_) | refine awpG_split (fun h => ?_) (fun h => ?_)) <;> simp only [h, f3, f4, f6, f8, hb3, hb4, hb8, nb4_b3, nb3_b4, nb7_b3, nb3_b7, nb7_b4, nb4_b7, nb8_b3, nb3_b8, nb8_b4, nb4_b8, nb8_b7, nb7_b8, nb8_b7, nb7_b8, zl, List.length_map, RR, seval])
              all_goals
                refine hK _ _ ?_; clear hK K
                refine awp_ret ?_; simp only [bodyQ, aresult, ares, f3, f4, f6, f8, hb3, hb4, hb8, nb4_b3, nb3_b4, nb7_b3, nb3_b7, nb7_b4, nb4_b7, nb8_b3, nb3_b8, nb8_b4, nb4_b8, nb8_b7, nb7_b8, nb8_b7, nb7_b8, zl, List.length_map, RR, seval]
                refine Gives.pure ?_
                rfl
      · clear hbr
        refine con_of 96 [.tmp 6] Tryd.func9 rfl rfl rfl rfl ?_
        refine awp_seq_k fun K hK => ?_
        refine awp_region rfl ?_
        simp only [zl, RR, seval]
        refine awpN_intro fun b3 hn3 => ?_
        simp only [zl, RR, seval]
        refine awpN_intro fun b4 hn4 => ?_
        have nb4_b3 : b4 ≠ b3 := fun e => by rw [e] at hn4; simp only [zl, RR, seval, reduceCtorEq] at hn4
        have nb3_b4 : b3 ≠ b4 := fun e => nb4_b3 e.symm
        simp only [nb4_b3, nb3_b4, zl, RR, seval]
        refine hK _ _ ?_; clear hK K
        refine awp_seq ?_
        refine awp_seq_k fun K hK => ?_
        refine awp_region rfl ?_
        simp only [nb4_b3, nb3_b4, zl, RR, seval]
        refine awpC_pure' (awake_con) ?_
        simp only [nb4_b3, nb3_b4, zl, RR, seval]
        refine hK _ _ ?_; clear hK K
        refine awp_if false rfl (fun hc => by cases hc) (fun _ => ?_)
        refine awp_skip ?_; try simp only [RR]
        refine awp_seq ?_
        refine awp_seq_k fun K hK => ?_
        refine awp_region rfl ?_
        simp only [nb4_b3, nb3_b4, zl, RR, seval]
        all_goals try (refine awpC_pure' (hF) ?_; simp only [nb4_b3, nb3_b4, zl, RR, seval])
        all_goals try ((first | refine awpG_splitN (fun h => ?_) (fun h => ?_) | refine awpG_split (fun h => ?_) (fun h => ?_)) <;> simp only [h, nb4_b3, nb3_b4, zl, RR, seval])
        all_goals try (refine awpC_pure' (hR) ?_; simp only [nb4_b3, nb3_b4, zl, RR, seval])
        all_goals try ((first | refine awpG_splitN (fun h => ?_) (fun h => ?_) | refine awpG_split (fun h => ?_) (fun h => ?_)) <;> simp only [h, nb4_b3, nb3_b4, zl, RR, seval])
        all_goals try (refine awpB_sealed ?_; simp only [nb4_b3, nb3_b4, zl, RR, seval])
        all_goals try (refine awpC_pure' (hL) ?_; simp only [nb4_b3, nb3_b4, zl, RR, seval])
        all_goals try ((first | refine awpG_splitN (fun h => ?_) (fun h => ?_) | refine awpG_split (fun h => ?_) (fun h => ?_)) <;> simp only [h, nb4_b3, nb3_b4, zl, RR, seval])
        all_goals
          refine hK _ _ ?_; clear hK K
          refine awp_if true rfl (fun _ => ?_) (fun hc => by cases hc)
          refine awp_seq_k fun K hK => ?_
          refine awp_region rfl ?_
          simp only [nb4_b3, nb3_b4, zl, RR, seval]
          refine hK _ _ ?_; clear hK K
          refine awp_ret ?_; simp only [bodyQ, aresult, ares, nb4_b3, nb3_b4, zl, RR, seval]
          refine Gives.pure ?_
          rfl
end Go.Proofs.YtefjogkgeelbdaaDoor
