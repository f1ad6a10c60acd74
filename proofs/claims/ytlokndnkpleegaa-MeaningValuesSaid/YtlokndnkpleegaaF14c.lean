/- Chapter 14, the judge's: may an expression be? -/
import Derived.Test.YtlokndnkpleegaaR13
set_option linter.unusedSimpArgs false
set_option linter.unusedVariables false
set_option maxRecDepth 10000
namespace Go.Proofs.Ytlokndnkpleegaa
open Go.Al
theorem nameB_words {s : Str} (h : wordsL.contains s = true) : nameB s = false := by
  cases s with
  | nil => rfl
  | cons c r => simp only [nameB, h, Bool.not_true, Bool.and_false]
theorem words14_con : PCon env 50 [] (.isl 1 (wordsL.map fun w => [.str w])) := by
  refine con_of 2 [.tmp 0] Try.func50 rfl rfl rfl rfl ?_
  refine awp_seq_k fun K hK => ?_; refine awp_region rfl ?_; simp only [RR, seval]
  refine hK _ _ ?_; clear hK K
  refine awp_seq_k fun K hK => ?_; refine awp_region rfl ?_; simp only [RR, seval]
  refine awpB_sealed ?_
  simp only [RR, seval]
  refine hK _ _ ?_; clear hK K
  refine awp_ret ?_; simp only [thenQ, blockQ, bodyQ, aresult, ares, argF, RR, seval]; refine Gives.pure ?_
  rfl
theorem IsName_con (s : Str) (hs : fitL s) : PCon env 37 [.str s] (.bool (nameB s)) := by
  refine con_of 20 [.tmp 2] Try.func37 rfl rfl rfl rfl ?_
  refine awp_seq_k fun K hK => ?_; refine awp_region rfl ?_; simp only [RR, seval]
  refine hK _ _ ?_; clear hK K
  refine awp_seq_k fun K hK => ?_; refine awp_region rfl ?_; simp only [RR, seval]
  refine awpC_pure' words14_con ?_; simp only [RR, seval]
  refine hK _ _ ?_; clear hK K
  refine awp_cutK (fun fr H => fr 0 = .str s) (fun K hK => ?_) ?_
  · refine awp_seq_k fun K hK => ?_; refine awp_region rfl ?_; simp only [RR, seval]
    refine hK _ _ ?_; clear hK K
    refine awp_block ?_
    refine awp_loopK (fun mm fr H => ∃ k : Nat, mm = wordsL.length - k ∧ k ≤ wordsL.length ∧ fr 4 = .int .i64 k ∧ fr 0 = .str s ∧ fr 3 = .isl 1 (wordsL.map fun w => [.str w])) (wordsL.length) ⟨0, rfl, Nat.zero_le _, rfl, rfl, rfl⟩ ?_
    rintro mm fr H ⟨k, rfl, hkk, hik, h0, h3⟩ K2 hK2
    refine awp_seq ?_
    refine awp_seq_k fun K hK => ?_; refine awp_region rfl ?_; simp only [RR, seval]
    simp only [hik, h3,List.length_map, RR, seval]
    refine hK _ _ ?_; clear hK K
    refine awp_if _ rfl (fun hc => ?_) (fun hc => ?_)
    · have hltk : k < wordsL.length := by have := of_decide_eq_true hc; omega
      clear hc
      refine awp_skip ?_; simp only [thenQ, blockQ]
      refine awp_seq ?_
      refine awp_block ?_
      have hg : (wordsL.map fun w => [AV.str w])[k]? = some [.str wordsL[k]] := by rw [List.getElem?_map, List.getElem?_eq_getElem hltk]; rfl
      have hmem := List.getElem_mem hltk
      generalize wordsL[k] = w at hg hmem
      refine awp_seq_k fun K hK => ?_; refine awp_region rfl ?_; simp only [RR, seval]
      simp only [h0, h3, hik, hg, RR, seval]
      refine hK _ _ ?_; clear hK K
      refine awp_if _ rfl (fun hc => ?_) (fun hc => ?_)
      · refine awp_seq_k fun K hK => ?_; refine awp_region rfl ?_; simp only [RR, seval]
        refine hK _ _ ?_; clear hK K
        refine awp_ret ?_; simp only [thenQ, blockQ, bodyQ, aresult, ares, argF, RR, seval]; refine Gives.pure ?_
        have : s = w := of_decide_eq_true hc
        subst this
        rw [nameB_words (by simpa using hmem)]
      · have hwl : wordsL.length = 10 := rfl
        refine awp_skip ?_; simp only [thenQ, blockQ]
        refine awp_region rfl ?_; simp only [RR, seval]
        simp only [hik, thenQ, blockQ, RR, seval]
        rw [IntWalk.i64_in _ (by omega)]
        refine hK2 (wordsL.length - (k + 1)) _ _ (by omega) ⟨k + 1, rfl, by omega, rfl, h0, h3⟩
    · refine awp_exit ?_; simp only [thenQ, blockQ, reduceIte, Nat.reduceEqDiff]
      have hknk : k = wordsL.length := by have := of_decide_eq_false hc; omega
      clear hc
      subst hknk
      exact hK _ _ h0
  · rintro fr H h0
    refine awp_seq_k fun K hK => ?_; refine awp_region rfl ?_; simp only [RR, seval]
    simp only [h0, RR, seval]
    refine awpC_pure' (rName_con s hs) ?_; simp only [RR, seval]
    refine hK _ _ ?_; clear hK K
    refine awp_ret ?_; simp only [thenQ, blockQ, bodyQ, aresult, ares, argF, RR, seval]; refine Gives.pure ?_
    rfl
theorem names14_con (l : List Str) (hl : okN l) : PCon env 36 [.isl 1 (l.map strRow)] (.bool (l.all nameB)) := by
  have hfit : l.length ≤ 9223372036854775807 := hl.fit
  refine con_of 16 [.tmp 2] Try.func36 rfl rfl rfl rfl ?_
  refine awp_seq_k fun K hK => ?_; refine awp_region rfl ?_; simp only [RR, seval]
  refine hK _ _ ?_; clear hK K
  refine awp_cutK (fun fr H => l.all nameB = true) (fun K hK => ?_) ?_
  · refine awp_seq_k fun K hK => ?_; refine awp_region rfl ?_; simp only [RR, seval]
    refine hK _ _ ?_; clear hK K
    refine awp_block ?_
    refine awp_loopK (fun mm fr H => ∃ k : Nat, mm = l.length - k ∧ k ≤ l.length ∧ fr 3 = .int .i64 k ∧ fr 0 = .isl 1 (l.map strRow) ∧ l.all nameB = (l.drop k).all nameB) (l.length) ⟨0, rfl, Nat.zero_le _, rfl, rfl, by rw [List.drop_zero]⟩ ?_
    rintro mm fr H ⟨k, rfl, hkk, hik, h0, hall⟩ K2 hK2
    refine awp_seq ?_
    refine awp_seq_k fun K hK => ?_; refine awp_region rfl ?_; simp only [RR, seval]
    simp only [hik, h0,List.length_map, RR, seval]
    refine hK _ _ ?_; clear hK K
    refine awp_if _ rfl (fun hc => ?_) (fun hc => ?_)
    · have hltk : k < l.length := by have := of_decide_eq_true hc; omega
      clear hc
      refine awp_skip ?_; simp only [thenQ, blockQ]
      refine awp_seq ?_
      refine awp_block ?_
      have hg := getN (List.getElem?_eq_getElem hltk)
      have hf := hl.all _ (List.getElem_mem hltk)
      rw [List.drop_eq_getElem_cons hltk, List.all_cons] at hall
      generalize l[k] = s at hg hall hf
      refine awp_seq_k fun K hK => ?_; refine awp_region rfl ?_; simp only [RR, seval]
      simp only [h0, hik, hg, RR, seval]
      refine awpC_pure' (IsName_con s hf) ?_; simp only [RR, seval]
      refine hK _ _ ?_; clear hK K
      refine awp_if (!nameB s) rfl (fun hc => ?_) (fun hc => ?_)
      · refine awp_seq_k fun K hK => ?_; refine awp_region rfl ?_; simp only [RR, seval]
        refine hK _ _ ?_; clear hK K
        refine awp_ret ?_; simp only [thenQ, blockQ, bodyQ, aresult, ares, argF, RR, seval]; refine Gives.pure ?_
        rw [hall, show nameB s = false by simpa using hc]; rfl
      · refine awp_skip ?_; simp only [thenQ, blockQ]
        rw [show nameB s = true by simpa using hc, Bool.true_and] at hall
        refine awp_region rfl ?_; simp only [RR, seval]
        simp only [hik, thenQ, blockQ, RR, seval]
        rw [IntWalk.i64_in _ (by omega)]
        refine hK2 (l.length - (k + 1)) _ _ (by omega) ⟨k + 1, rfl, by omega, rfl, h0, hall⟩
    · refine awp_exit ?_; simp only [thenQ, blockQ, reduceIte, Nat.reduceEqDiff]
      have hknk : k = l.length := by have := of_decide_eq_false hc; omega
      clear hc
      subst hknk
      rw [List.drop_length] at hall
      exact hK _ _ hall
  · rintro fr H h0
    refine awp_seq_k fun K hK => ?_; refine awp_region rfl ?_; simp only [RR, seval]
    refine hK _ _ ?_; clear hK K
    refine awp_ret ?_; simp only [thenQ, blockQ, bodyQ, aresult, ares, argF, RR, seval]; refine Gives.pure ?_
    rw [h0]
/-- an expression, but for its kids -/
def headX (e : Ex) (level : Int) : Bool :=
  decide (level ≤ 24) && (decide (e.kind = 6) || decide (e.op = 0)) && (decide (e.kind = 1) || decide (e.num = 0)) &&
    (if e.kind = 2 ∨ e.kind = 3 ∨ e.kind = 4 then nameB e.name else decide (e.name = []))
def kidsX (k o : Int) (n : Nat) : Bool :=
  if k = 1 ∨ k = 2 ∨ k = 5 then decide (n = 0) else if k = 3 ∨ k = 7 then decide (n = 1) else if k = 4 then decide (n ≤ 6)
  else if k = 6 then decide (4 ≤ o) && decide (o ≤ 15) && decide (n = 2) else if k = 8 ∨ k = 9 then decide (n = 2) else false
def rightE : List Ex → Int → Bool
  | [], _ => true
  | .mk k o n s kids :: l, level => headX (.mk k o n s kids) level && kidsX k o kids.length && rightE kids (level + 1) && rightE l level
def rightX (e : Ex) (level : Int) : Bool := headX e level && kidsX e.kind e.op e.kids.length && rightE e.kids (level + 1)
theorem rightE_cons (e : Ex) (l : List Ex) (level : Int) : rightE (e :: l) level = (rightX e level && rightE l level) := by
  cases e; rw [rightE]; rfl
theorem rightE_nil (level : Int) : rightE [] level = true := by rw [rightE]
set_option maxHeartbeats 4000000 in
theorem RightExpr_step (e : Ex) (he : e.ok) (level : Int) (h1 : -1000000 ≤ level) (h2 : level ≤ 1000000)
    (ih : level ≤ 24 → PCon env 75 [.isl 5 (e.kids.map Ex.row), .int .i64 (level + 1)] (.bool (rightE e.kids (level + 1)))) :
    PCon env 94 [.agg e.row, .int .i64 level] (.bool (rightX e level)) := by
  have hname := IsName_con e.name he.name
  have hrow := e.row_eq
  generalize he2 : rightX e level = res
  rw [hrow]
  have hkids : e.kids.length ≤ 9223372036854775807 := he.kids.fit
  obtain ⟨k, o, n, s, l⟩ := e
  simp only [Ex.kind, Ex.op, Ex.num, Ex.name, Ex.kids] at ih hname hkids ⊢
  clear hrow he
  have hX : rightX (.mk k o n s l) level = ((decide (level ≤ 24) && (decide (k = 6) || decide (o = 0)) && (decide (k = 1) || decide (n = 0))) && (if k = 2 ∨ k = 3 ∨ k = 4 then nameB s else decide (s = [])) && kidsX k o l.length && rightE l (level + 1)) := rfl
  refine con_of 123 [.tmp 4] Try.func94 rfl rfl rfl rfl ?_
  refine awp_cutK (fun fr H => ∃ b, fr 1 = .int .i64 level ∧ fr 2 = .ptr 5 b 0 0 ∧ H b = some (.rows 5 [[.int .i64 k, .int .i64 o, .int .u32 n, .str s, .isl 5 (l.map Ex.row)]])) (fun K hK => ?_) ?_
  · refine awp_region rfl ?_; simp only [RR, seval]
    refine awpN_intro fun b hb => ?_; simp only [RR, seval]
    exact hK _ _ ⟨b, rfl, rfl, upd_same _ _ _⟩
  rintro fr H ⟨b, f1, f2, hb⟩
  refine awp_seq ?_
  refine awp_cutK (fun fr H => ∃ t, fr 28 = .bool t ∧ (t = !(decide (level ≤ 24) && (decide (k = 6) || decide (o = 0)) && (decide (k = 1) || decide (n = 0)))) ∧ fr 1 = .int .i64 level ∧ fr 2 = .ptr 5 b 0 0 ∧ H b = some (.rows 5 [[.int .i64 k, .int .i64 o, .int .u32 n, .str s, .isl 5 (l.map Ex.row)]])) (fun K hK => ?_) ?_
  · refine awp_region rfl ?_; simp only [RR, seval]
    simp only [f1, f2, hb, RR, seval]
    repeat' ((first | refine awpG_splitN (fun h => ?_) (fun h => ?_) | refine awpG_split (fun h => ?_) (fun h => ?_)) <;> simp only [h, f1, f2, hb, RR, seval])
    all_goals
      refine hK _ _ ⟨_, rfl, ?_, f1, f2, hb⟩
      clear hK
      simp_all <;> omega
  rintro fr H ⟨t, f28, ht, f1, f2, hb⟩
  refine awp_if _ f28 (fun hc => ?_) (fun hc => ?_)
  · refine awp_seq_k fun K hK => ?_; refine awp_region rfl ?_; simp only [RR, seval]
    refine hK _ _ ?_; clear hK K
    refine awp_ret ?_; simp only [thenQ, blockQ, bodyQ, aresult, ares, argF, RR, seval]; refine Gives.pure ?_
    rw [← he2]
    have : (decide (level ≤ 24) && (decide (k = 6) || decide (o = 0)) && (decide (k = 1) || decide (n = 0))) = false := by
      cases e : (decide (level ≤ 24) && (decide (k = 6) || decide (o = 0)) && (decide (k = 1) || decide (n = 0))) with
      | false => rfl
      | true => rw [e, hc] at ht; cases ht
    rw [hX, this]; rfl
  have h3 : (decide (level ≤ 24) && (decide (k = 6) || decide (o = 0)) && (decide (k = 1) || decide (n = 0))) = true := by
    cases e : (decide (level ≤ 24) && (decide (k = 6) || decide (o = 0)) && (decide (k = 1) || decide (n = 0))) with
    | true => rfl
    | false => rw [e, hc] at ht; cases ht
  have hlev : level ≤ 24 := by simp only [Bool.and_eq_true, decide_eq_true_eq] at h3; exact h3.1.1
  have hres : res = ((if k = 2 ∨ k = 3 ∨ k = 4 then nameB s else decide (s = [])) && kidsX k o l.length && rightE l (level + 1)) := by
    rw [← he2, hX, h3, Bool.true_and]
  have ih2 := ih hlev
  clear ht hc f28 t
  refine awp_skip ?_; simp only [thenQ, blockQ]
  refine awp_cutK (fun fr H => fr 5 = .bool (decide (k = 2 ∨ k = 3 ∨ k = 4)) ∧ fr 1 = .int .i64 level ∧ fr 2 = .ptr 5 b 0 0 ∧ H b = some (.rows 5 [[.int .i64 k, .int .i64 o, .int .u32 n, .str s, .isl 5 (l.map Ex.row)]])) (fun K hK => ?_) ?_
  · refine awp_region rfl ?_; simp only [RR, seval]
    simp only [f1, f2, hb, RR, seval]
    repeat' ((first | refine awpG_splitN (fun h => ?_) (fun h => ?_) | refine awpG_split (fun h => ?_) (fun h => ?_)) <;> simp only [h, f1, f2, hb, RR, seval])
    all_goals
      refine hK _ _ ⟨?_, f1, f2, hb⟩
      clear hK
      simp [upd]
      simp_all
  rintro fr H ⟨f5, f1, f2, hb⟩
  refine awp_seq ?_
  refine awp_cutK (fun fr H => ∃ t, fr 55 = .bool t ∧ (t = !(if k = 2 ∨ k = 3 ∨ k = 4 then nameB s else decide (s = []))) ∧ fr 1 = .int .i64 level ∧ fr 2 = .ptr 5 b 0 0 ∧ H b = some (.rows 5 [[.int .i64 k, .int .i64 o, .int .u32 n, .str s, .isl 5 (l.map Ex.row)]])) (fun K hK => ?_) ?_
  · by_cases hk : k = 2 ∨ k = 3 ∨ k = 4
    · have e1 : decide (k = 2 ∨ k = 3 ∨ k = 4) = true := decide_eq_true hk
      rw [e1] at f5
      by_cases hsn : s = []
      · have e2 : decide (s = []) = true := decide_eq_true hsn
        refine awp_region rfl ?_; simp only [RR, seval]
        simp only [f1, f2, f5, hb, e2, RR, seval]
        exact hK _ _ ⟨_, rfl, by rw [if_pos hk, hsn]; rfl, f1, f2, hb⟩
      · have e2 : decide (s = []) = false := decide_eq_false hsn
        refine awp_region rfl ?_; simp only [RR, seval]
        simp only [f1, f2, f5, hb, e2, RR, seval]
        refine awpC_pure' hname ?_; simp only [RR, seval]
        refine hK _ _ ⟨_, rfl, by rw [if_pos hk], f1, f2, hb⟩
    · have e1 : decide (k = 2 ∨ k = 3 ∨ k = 4) = false := decide_eq_false hk
      rw [e1] at f5
      by_cases hsn : s = []
      · have e2 : decide (s = []) = true := decide_eq_true hsn
        refine awp_region rfl ?_; simp only [RR, seval]
        simp only [f1, f2, f5, hb, e2, RR, seval]
        exact hK _ _ ⟨_, rfl, by rw [if_neg hk, e2]; rfl, f1, f2, hb⟩
      · have e2 : decide (s = []) = false := decide_eq_false hsn
        refine awp_region rfl ?_; simp only [RR, seval]
        simp only [f1, f2, f5, hb, e2, RR, seval]
        exact hK _ _ ⟨_, rfl, by rw [if_neg hk, e2]; rfl, f1, f2, hb⟩
  rintro fr H ⟨t, f55, ht, f1, f2, hb⟩
  refine awp_if _ f55 (fun hc => ?_) (fun hc => ?_)
  · refine awp_seq_k fun K hK => ?_; refine awp_region rfl ?_; simp only [RR, seval]
    refine hK _ _ ?_; clear hK K
    refine awp_ret ?_; simp only [thenQ, blockQ, bodyQ, aresult, ares, argF, RR, seval]; refine Gives.pure ?_
    have : (if k = 2 ∨ k = 3 ∨ k = 4 then nameB s else decide (s = [])) = false := by
      rw [hc] at ht
      cases e : (if k = 2 ∨ k = 3 ∨ k = 4 then nameB s else decide (s = [])) with
      | false => rfl
      | true => rw [e] at ht; cases ht
    rw [hres, this]; rfl
  have hnm : (if k = 2 ∨ k = 3 ∨ k = 4 then nameB s else decide (s = [])) = true := by
    rw [hc] at ht
    cases e : (if k = 2 ∨ k = 3 ∨ k = 4 then nameB s else decide (s = [])) with
    | true => rfl
    | false => rw [e] at ht; cases ht
  rw [hnm, Bool.true_and] at hres
  clear ht hc f55 t h3 hnm he2
  refine awp_skip ?_; simp only [thenQ, blockQ]
  refine awp_seq_k fun K hK => ?_; refine awp_region rfl ?_; simp only [RR, seval]
  simp only [f2, hb, List.length_map, RR, seval]
  refine hK _ _ ?_; clear hK K
  have w1 : IntKind.wrap .i64 (level + 1) = level + 1 := IntWalk.i64_in _ (by omega)
  have l0 : ∀ m : Nat, decide ((l.length : Int) = m) = decide (l.length = m) := fun m => by rw [Bool.eq_iff_iff]; simp only [decide_eq_true_eq]; omega
  have l6 : decide ((l.length : Int) ≤ 6) = decide (l.length ≤ 6) := by rw [Bool.eq_iff_iff]; simp only [decide_eq_true_eq]; omega
  have d0 : decide ((l.length : Int) = 0) = decide (l.length = 0) := l0 0
  have d1 : decide ((l.length : Int) = 1) = decide (l.length = 1) := l0 1
  have d2 : decide ((l.length : Int) = 2) = decide (l.length = 2) := l0 2
  clear l0
  subst hres
  by_cases k1 : k = 1
  · subst k1
    repeat' (first | (refine awp_seq_k fun K hK => ?_; refine awp_region rfl ?_; simp only [f1, f2, hb, d0, RR, seval]; refine hK _ _ ?_; clear hK K) | (refine awp_seq ?_) | (refine awp_block ?_) | (refine awp_if true rfl (fun _ => ?_) (fun hc => by cases hc)) | (refine awp_if false rfl (fun hc => by cases hc) (fun _ => ?_)) | (refine awp_skip ?_; simp only [thenQ, blockQ]) | (refine awp_exit ?_; simp only [thenQ, blockQ, reduceIte, Nat.reduceEqDiff]) | (refine awp_region rfl ?_; simp only [f1, f2, hb, d0, thenQ, blockQ, RR, seval]) | (refine awpG_splitN (fun h => ?_) (fun h => ?_) <;> simp only [h, f1, f2, hb, d0, thenQ, blockQ, RR, seval]) | (refine awpG_split (fun h => ?_) (fun h => ?_) <;> simp only [h, f1, f2, hb, d0, thenQ, blockQ, RR, seval]) | (refine awp_if _ rfl (fun h => ?_) (fun h => ?_)) | (refine awp_ret ?_; simp only [thenQ, blockQ, bodyQ, aresult, ares, argF, f1, f2, hb, d0, RR, seval]; refine Gives.pure ?_))
    cases l with
    | nil => simp only [kidsX, rightE_nil]; rfl
    | cons => simp [kidsX]
  by_cases k1 : k = 2
  · subst k1
    repeat' (first | (refine awp_seq_k fun K hK => ?_; refine awp_region rfl ?_; simp only [f1, f2, hb, d0, RR, seval]; refine hK _ _ ?_; clear hK K) | (refine awp_seq ?_) | (refine awp_block ?_) | (refine awp_if true rfl (fun _ => ?_) (fun hc => by cases hc)) | (refine awp_if false rfl (fun hc => by cases hc) (fun _ => ?_)) | (refine awp_skip ?_; simp only [thenQ, blockQ]) | (refine awp_exit ?_; simp only [thenQ, blockQ, reduceIte, Nat.reduceEqDiff]) | (refine awp_region rfl ?_; simp only [f1, f2, hb, d0, thenQ, blockQ, RR, seval]) | (refine awpG_splitN (fun h => ?_) (fun h => ?_) <;> simp only [h, f1, f2, hb, d0, thenQ, blockQ, RR, seval]) | (refine awpG_split (fun h => ?_) (fun h => ?_) <;> simp only [h, f1, f2, hb, d0, thenQ, blockQ, RR, seval]) | (refine awp_if _ rfl (fun h => ?_) (fun h => ?_)) | (refine awp_ret ?_; simp only [thenQ, blockQ, bodyQ, aresult, ares, argF, f1, f2, hb, d0, RR, seval]; refine Gives.pure ?_))
    cases l with
    | nil => simp only [kidsX, rightE_nil]; rfl
    | cons => simp [kidsX]
  by_cases k1 : k = 5
  · subst k1
    repeat' (first | (refine awp_seq_k fun K hK => ?_; refine awp_region rfl ?_; simp only [f1, f2, hb, d0, RR, seval]; refine hK _ _ ?_; clear hK K) | (refine awp_seq ?_) | (refine awp_block ?_) | (refine awp_if true rfl (fun _ => ?_) (fun hc => by cases hc)) | (refine awp_if false rfl (fun hc => by cases hc) (fun _ => ?_)) | (refine awp_skip ?_; simp only [thenQ, blockQ]) | (refine awp_exit ?_; simp only [thenQ, blockQ, reduceIte, Nat.reduceEqDiff]) | (refine awp_region rfl ?_; simp only [f1, f2, hb, d0, thenQ, blockQ, RR, seval]) | (refine awpG_splitN (fun h => ?_) (fun h => ?_) <;> simp only [h, f1, f2, hb, d0, thenQ, blockQ, RR, seval]) | (refine awpG_split (fun h => ?_) (fun h => ?_) <;> simp only [h, f1, f2, hb, d0, thenQ, blockQ, RR, seval]) | (refine awp_if _ rfl (fun h => ?_) (fun h => ?_)) | (refine awp_ret ?_; simp only [thenQ, blockQ, bodyQ, aresult, ares, argF, f1, f2, hb, d0, RR, seval]; refine Gives.pure ?_))
    cases l with
    | nil => simp only [kidsX, rightE_nil]; rfl
    | cons => simp [kidsX]
  by_cases k1 : k = 3
  · subst k1
    repeat' (first | (refine awp_seq_k fun K hK => ?_; refine awp_region rfl ?_; simp only [f1, f2, hb, d1, w1, RR, seval]; refine hK _ _ ?_; clear hK K) | (refine awp_seq ?_) | (refine awp_block ?_) | (refine awp_if true rfl (fun _ => ?_) (fun hc => by cases hc)) | (refine awp_if false rfl (fun hc => by cases hc) (fun _ => ?_)) | (refine awp_skip ?_; simp only [thenQ, blockQ]) | (refine awp_exit ?_; simp only [thenQ, blockQ, reduceIte, Nat.reduceEqDiff]) | (refine awp_region rfl ?_; simp only [f1, f2, hb, d1, w1, thenQ, blockQ, RR, seval]) | (refine awpG_splitN (fun h => ?_) (fun h => ?_) <;> simp only [h, f1, f2, hb, d1, w1, thenQ, blockQ, RR, seval]) | (refine awpG_split (fun h => ?_) (fun h => ?_) <;> simp only [h, f1, f2, hb, d1, w1, thenQ, blockQ, RR, seval]) | (refine awp_if _ rfl (fun h => ?_) (fun h => ?_)) | (refine awp_ret ?_; simp only [thenQ, blockQ, bodyQ, aresult, ares, argF, f1, f2, hb, d1, w1, RR, seval]; refine Gives.pure ?_) | (refine awpC_pure' (ih2) ?_; simp only [f1, f2, hb, d1, w1, thenQ, blockQ, RR, seval]))
    all_goals simp [kidsX, *]
  by_cases k1 : k = 7
  · subst k1
    repeat' (first | (refine awp_seq_k fun K hK => ?_; refine awp_region rfl ?_; simp only [f1, f2, hb, d1, w1, RR, seval]; refine hK _ _ ?_; clear hK K) | (refine awp_seq ?_) | (refine awp_block ?_) | (refine awp_if true rfl (fun _ => ?_) (fun hc => by cases hc)) | (refine awp_if false rfl (fun hc => by cases hc) (fun _ => ?_)) | (refine awp_skip ?_; simp only [thenQ, blockQ]) | (refine awp_exit ?_; simp only [thenQ, blockQ, reduceIte, Nat.reduceEqDiff]) | (refine awp_region rfl ?_; simp only [f1, f2, hb, d1, w1, thenQ, blockQ, RR, seval]) | (refine awpG_splitN (fun h => ?_) (fun h => ?_) <;> simp only [h, f1, f2, hb, d1, w1, thenQ, blockQ, RR, seval]) | (refine awpG_split (fun h => ?_) (fun h => ?_) <;> simp only [h, f1, f2, hb, d1, w1, thenQ, blockQ, RR, seval]) | (refine awp_if _ rfl (fun h => ?_) (fun h => ?_)) | (refine awp_ret ?_; simp only [thenQ, blockQ, bodyQ, aresult, ares, argF, f1, f2, hb, d1, w1, RR, seval]; refine Gives.pure ?_) | (refine awpC_pure' (ih2) ?_; simp only [f1, f2, hb, d1, w1, thenQ, blockQ, RR, seval]))
    all_goals simp [kidsX, *]
  by_cases k1 : k = 4
  · subst k1
    repeat' (first | (refine awp_seq_k fun K hK => ?_; refine awp_region rfl ?_; simp only [f1, f2, hb, l6, w1, RR, seval]; refine hK _ _ ?_; clear hK K) | (refine awp_seq ?_) | (refine awp_block ?_) | (refine awp_if true rfl (fun _ => ?_) (fun hc => by cases hc)) | (refine awp_if false rfl (fun hc => by cases hc) (fun _ => ?_)) | (refine awp_skip ?_; simp only [thenQ, blockQ]) | (refine awp_exit ?_; simp only [thenQ, blockQ, reduceIte, Nat.reduceEqDiff]) | (refine awp_region rfl ?_; simp only [f1, f2, hb, l6, w1, thenQ, blockQ, RR, seval]) | (refine awpG_splitN (fun h => ?_) (fun h => ?_) <;> simp only [h, f1, f2, hb, l6, w1, thenQ, blockQ, RR, seval]) | (refine awpG_split (fun h => ?_) (fun h => ?_) <;> simp only [h, f1, f2, hb, l6, w1, thenQ, blockQ, RR, seval]) | (refine awp_if _ rfl (fun h => ?_) (fun h => ?_)) | (refine awp_ret ?_; simp only [thenQ, blockQ, bodyQ, aresult, ares, argF, f1, f2, hb, l6, w1, RR, seval]; refine Gives.pure ?_) | (refine awpC_pure' (ih2) ?_; simp only [f1, f2, hb, l6, w1, thenQ, blockQ, RR, seval]))
    all_goals simp [kidsX, *]
  by_cases k1 : k = 6
  · subst k1
    repeat' (first | (refine awp_seq_k fun K hK => ?_; refine awp_region rfl ?_; simp only [f1, f2, hb, d2, w1, RR, seval]; refine hK _ _ ?_; clear hK K) | (refine awp_seq ?_) | (refine awp_block ?_) | (refine awp_if true rfl (fun _ => ?_) (fun hc => by cases hc)) | (refine awp_if false rfl (fun hc => by cases hc) (fun _ => ?_)) | (refine awp_skip ?_; simp only [thenQ, blockQ]) | (refine awp_exit ?_; simp only [thenQ, blockQ, reduceIte, Nat.reduceEqDiff]) | (refine awp_region rfl ?_; simp only [f1, f2, hb, d2, w1, thenQ, blockQ, RR, seval]) | (refine awpG_splitN (fun h => ?_) (fun h => ?_) <;> simp only [h, f1, f2, hb, d2, w1, thenQ, blockQ, RR, seval]) | (refine awpG_split (fun h => ?_) (fun h => ?_) <;> simp only [h, f1, f2, hb, d2, w1, thenQ, blockQ, RR, seval]) | (refine awp_if _ rfl (fun h => ?_) (fun h => ?_)) | (refine awp_ret ?_; simp only [thenQ, blockQ, bodyQ, aresult, ares, argF, f1, f2, hb, d2, w1, RR, seval]; refine Gives.pure ?_) | (refine awpC_pure' (ih2) ?_; simp only [f1, f2, hb, d2, w1, thenQ, blockQ, RR, seval]))
    all_goals simp [kidsX, *]
  by_cases k1 : k = 8
  · subst k1
    repeat' (first | (refine awp_seq_k fun K hK => ?_; refine awp_region rfl ?_; simp only [f1, f2, hb, d2, w1, RR, seval]; refine hK _ _ ?_; clear hK K) | (refine awp_seq ?_) | (refine awp_block ?_) | (refine awp_if true rfl (fun _ => ?_) (fun hc => by cases hc)) | (refine awp_if false rfl (fun hc => by cases hc) (fun _ => ?_)) | (refine awp_skip ?_; simp only [thenQ, blockQ]) | (refine awp_exit ?_; simp only [thenQ, blockQ, reduceIte, Nat.reduceEqDiff]) | (refine awp_region rfl ?_; simp only [f1, f2, hb, d2, w1, thenQ, blockQ, RR, seval]) | (refine awpG_splitN (fun h => ?_) (fun h => ?_) <;> simp only [h, f1, f2, hb, d2, w1, thenQ, blockQ, RR, seval]) | (refine awpG_split (fun h => ?_) (fun h => ?_) <;> simp only [h, f1, f2, hb, d2, w1, thenQ, blockQ, RR, seval]) | (refine awp_if _ rfl (fun h => ?_) (fun h => ?_)) | (refine awp_ret ?_; simp only [thenQ, blockQ, bodyQ, aresult, ares, argF, f1, f2, hb, d2, w1, RR, seval]; refine Gives.pure ?_) | (refine awpC_pure' (ih2) ?_; simp only [f1, f2, hb, d2, w1, thenQ, blockQ, RR, seval]))
    all_goals simp [kidsX, *]
  by_cases k1 : k = 9
  · subst k1
    repeat' (first | (refine awp_seq_k fun K hK => ?_; refine awp_region rfl ?_; simp only [f1, f2, hb, d2, w1, RR, seval]; refine hK _ _ ?_; clear hK K) | (refine awp_seq ?_) | (refine awp_block ?_) | (refine awp_if true rfl (fun _ => ?_) (fun hc => by cases hc)) | (refine awp_if false rfl (fun hc => by cases hc) (fun _ => ?_)) | (refine awp_skip ?_; simp only [thenQ, blockQ]) | (refine awp_exit ?_; simp only [thenQ, blockQ, reduceIte, Nat.reduceEqDiff]) | (refine awp_region rfl ?_; simp only [f1, f2, hb, d2, w1, thenQ, blockQ, RR, seval]) | (refine awpG_splitN (fun h => ?_) (fun h => ?_) <;> simp only [h, f1, f2, hb, d2, w1, thenQ, blockQ, RR, seval]) | (refine awpG_split (fun h => ?_) (fun h => ?_) <;> simp only [h, f1, f2, hb, d2, w1, thenQ, blockQ, RR, seval]) | (refine awp_if _ rfl (fun h => ?_) (fun h => ?_)) | (refine awp_ret ?_; simp only [thenQ, blockQ, bodyQ, aresult, ares, argF, f1, f2, hb, d2, w1, RR, seval]; refine Gives.pure ?_) | (refine awpC_pure' (ih2) ?_; simp only [f1, f2, hb, d2, w1, thenQ, blockQ, RR, seval]))
    all_goals simp [kidsX, *]
  · have g1 : decide (k = 1) = false := decide_eq_false (by assumption)
    have g2 : decide (k = 2) = false := decide_eq_false (by assumption)
    have g3 : decide (k = 3) = false := decide_eq_false (by assumption)
    have g4 : decide (k = 4) = false := decide_eq_false (by assumption)
    have g5 : decide (k = 5) = false := decide_eq_false (by assumption)
    have g6 : decide (k = 6) = false := decide_eq_false (by assumption)
    have g7 : decide (k = 7) = false := decide_eq_false (by assumption)
    have g8 : decide (k = 8) = false := decide_eq_false (by assumption)
    have g9 : decide (k = 9) = false := decide_eq_false (by assumption)
    repeat' (first | (refine awp_seq_k fun K hK => ?_; refine awp_region rfl ?_; simp only [f1, f2, hb, g1, g2, g3, g4, g5, g6, g7, g8, g9, RR, seval]; refine hK _ _ ?_; clear hK K) | (refine awp_seq ?_) | (refine awp_block ?_) | (refine awp_if true rfl (fun _ => ?_) (fun hc => by cases hc)) | (refine awp_if false rfl (fun hc => by cases hc) (fun _ => ?_)) | (refine awp_skip ?_; simp only [thenQ, blockQ]) | (refine awp_exit ?_; simp only [thenQ, blockQ, reduceIte, Nat.reduceEqDiff]) | (refine awp_region rfl ?_; simp only [f1, f2, hb, g1, g2, g3, g4, g5, g6, g7, g8, g9, thenQ, blockQ, RR, seval]) | (refine awpG_splitN (fun h => ?_) (fun h => ?_) <;> simp only [h, f1, f2, hb, g1, g2, g3, g4, g5, g6, g7, g8, g9, thenQ, blockQ, RR, seval]) | (refine awpG_split (fun h => ?_) (fun h => ?_) <;> simp only [h, f1, f2, hb, g1, g2, g3, g4, g5, g6, g7, g8, g9, thenQ, blockQ, RR, seval]) | (refine awp_if _ rfl (fun h => ?_) (fun h => ?_)) | (refine awp_ret ?_; simp only [thenQ, blockQ, bodyQ, aresult, ares, argF, f1, f2, hb, g1, g2, g3, g4, g5, g6, g7, g8, g9, RR, seval]; refine Gives.pure ?_))
    simp [kidsX, *]
theorem RightExprs_con (n : Nat) : ∀ (l : List Ex) (level : Int), szE l = n → okE l → -1000000 ≤ level → level ≤ 1000000 → PCon env 75 [.isl 5 (l.map Ex.row), .int .i64 level] (.bool (rightE l level)) := by
  induction n using Nat.strongRecOn with
  | _ n ih =>
    intro l level hn hok h1 h2
    have hfit : l.length ≤ 9223372036854775807 := hok.fit
    refine con_of 19 [.tmp 4] Try.func75 rfl rfl rfl rfl ?_
    refine awp_seq_k fun K hK => ?_; refine awp_region rfl ?_; simp only [RR, seval]
    refine hK _ _ ?_; clear hK K
    refine awp_cutK (fun fr H => rightE l level = true) (fun K hK => ?_) ?_
    · refine awp_seq_k fun K hK => ?_; refine awp_region rfl ?_; simp only [RR, seval]
      refine hK _ _ ?_; clear hK K
      refine awp_block ?_
      refine awp_loopK (fun mm fr H => ∃ k : Nat, mm = l.length - k ∧ k ≤ l.length ∧ fr 5 = .int .i64 k ∧ fr 0 = .isl 5 (l.map Ex.row) ∧ fr 1 = .int .i64 level ∧ rightE l level = rightE (l.drop k) level) (l.length) ⟨0, rfl, Nat.zero_le _, rfl, rfl, rfl, by rw [List.drop_zero]⟩ ?_
      rintro mm fr H ⟨k, rfl, hkk, hik, h0, f1, hall⟩ K2 hK2
      refine awp_seq ?_
      refine awp_seq_k fun K hK => ?_; refine awp_region rfl ?_; simp only [RR, seval]
      simp only [hik, h0,List.length_map, RR, seval]
      refine hK _ _ ?_; clear hK K
      refine awp_if _ rfl (fun hc => ?_) (fun hc => ?_)
      · have hltk : k < l.length := by have := of_decide_eq_true hc; omega
        clear hc
        refine awp_skip ?_; simp only [thenQ, blockQ]
        refine awp_seq ?_
        refine awp_block ?_
        have hg := getRow Ex.row (List.getElem?_eq_getElem hltk)
        have hmem := List.getElem_mem hltk
        have he := hok.all _ hmem
        have hsz := szE_mem hmem
        rw [List.drop_eq_getElem_cons hltk, rightE_cons] at hall
        generalize l[k] = e at hg hall he hsz
        have hse := e.sz_eq
        have hl5 := e.row_len
        have hcon := RightExpr_step e he level h1 h2 (fun hle => ih _ (by omega) e.kids (level + 1) rfl he.kids (by omega) (by omega))
        refine awp_seq_k fun K hK => ?_; refine awp_region rfl ?_; simp only [RR, seval]
        simp only [h0, f1, hik, hg, hl5, RR, seval]
        rw [List.take_of_length_le (by omega)]
        refine awpC_pure' hcon ?_; simp only [RR, seval]
        refine hK _ _ ?_; clear hK K
        refine awp_if (!rightX e level) rfl (fun hc => ?_) (fun hc => ?_)
        · refine awp_seq_k fun K hK => ?_; refine awp_region rfl ?_; simp only [RR, seval]
          refine hK _ _ ?_; clear hK K
          refine awp_ret ?_; simp only [thenQ, blockQ, bodyQ, aresult, ares, argF, RR, seval]; refine Gives.pure ?_
          rw [hall, show rightX e level = false by simpa using hc]; rfl
        · refine awp_skip ?_; simp only [thenQ, blockQ]
          rw [show rightX e level = true by simpa using hc, Bool.true_and] at hall
          refine awp_region rfl ?_; simp only [RR, seval]
          simp only [hik, thenQ, blockQ, RR, seval]
          rw [IntWalk.i64_in _ (by omega)]
          refine hK2 (l.length - (k + 1)) _ _ (by omega) ⟨k + 1, rfl, by omega, rfl, h0, f1, hall⟩
      · refine awp_exit ?_; simp only [thenQ, blockQ, reduceIte, Nat.reduceEqDiff]
        have hknk : k = l.length := by have := of_decide_eq_false hc; omega
        clear hc
        subst hknk
        rw [List.drop_length, rightE_nil] at hall
        exact hK _ _ hall
    · rintro fr H h0
      refine awp_seq_k fun K hK => ?_; refine awp_region rfl ?_; simp only [RR, seval]
      refine hK _ _ ?_; clear hK K
      refine awp_ret ?_; simp only [thenQ, blockQ, bodyQ, aresult, ares, argF, RR, seval]; refine Gives.pure ?_
      rw [h0]
end Go.Proofs.Ytlokndnkpleegaa
