/- Chapter 14, the judge's: may a program be? -/
import Derived.Test.YtlokndnkpleegaaF14c
set_option linter.unusedSimpArgs false
set_option linter.unusedVariables false
set_option maxRecDepth 10000
namespace Go.Proofs.Ytlokndnkpleegaa
open Go.Al
/-- a statement, but for what is in it -/
def headS (s : Sm) (level : Int) : Bool :=
  decide (level ≤ 24) && (decide (s.kind = 4) || decide (s.els.length = 0)) && (decide (s.kind = 4) || decide (s.kind = 5) || decide (s.thn.length = 0)) &&
    (if s.kind = 1 ∨ s.kind = 2 ∨ s.kind = 6 then nameB s.name else decide (s.name = []))
def fitS (k : Int) (n : Nat) : Bool :=
  if k = 1 ∨ k = 3 ∨ k = 4 ∨ k = 5 then decide (n = 1) else if k = 2 then decide (n = 2) else if k = 6 then decide (n ≤ 6) else if k = 7 then decide (n ≤ 1) else false
def rightS : List Sm → Int → Bool
  | [], _ => true
  | .mk k s es t u :: l, level => headS (.mk k s es t u) level && fitS k es.length && rightE es (level + 1) && rightS t (level + 1) && rightS u (level + 1) && rightS l level
def rightM (s : Sm) (level : Int) : Bool := headS s level && fitS s.kind s.es.length && rightE s.es (level + 1) && rightS s.thn (level + 1) && rightS s.els (level + 1)
theorem rightS_cons (e : Sm) (l : List Sm) (level : Int) : rightS (e :: l) level = (rightM e level && rightS l level) := by
  cases e; rw [rightS]; rfl
theorem rightS_nil (level : Int) : rightS [] level = true := by rw [rightS]
def rightA (a : Ar) : Bool := nameB a.name && decide (1 ≤ a.size) && decide (a.size ≤ 4096)
def rightF (f : Fu) : Bool := nameB f.name && decide (f.params.length ≤ 6) && f.params.all nameB && f.locs.all nameB && rightS f.body 1
def rightP (p : Pg) : Bool := p.vars.all nameB && decide (1 ≤ p.funs.length) && decide (p.funs.length ≤ 64) && p.arrs.all rightA && p.funs.all rightF
theorem bneg {a b : Bool} (h : a = !b) (ha : a = true) : b = false := by subst ha; cases b <;> simp_all
theorem bpos {a b : Bool} (h : a = !b) (ha : a = false) : b = true := by subst ha; cases b <;> simp_all
set_option maxHeartbeats 4000000 in
theorem RightStmt_step (e : Sm) (he : e.ok) (level : Int) (h1 : -1000000 ≤ level) (h2 : level ≤ 1000000)
    (ih : level ≤ 24 → ∀ x, x = e.thn ∨ x = e.els → PCon env 38 [.isl 5 (x.map Sm.row), .int .i64 (level + 1)] (.bool (rightS x (level + 1)))) :
    PCon env 52 [.agg e.row, .int .i64 level] (.bool (rightM e level)) := by
  have hname := IsName_con e.name he.name
  have hexs := fun h => RightExprs_con _ e.es (level + 1) rfl he.es (by omega) h
  have hrow := e.row_eq
  generalize he2 : rightM e level = res
  rw [hrow]
  have f3 : e.es.length ≤ 9223372036854775807 := he.es.fit
  have f4 : e.thn.length ≤ 9223372036854775807 := he.thn.fit
  have f5 : e.els.length ≤ 9223372036854775807 := he.els.fit
  obtain ⟨k, s, l, tt, u⟩ := e
  simp only [Sm.kind, Sm.name, Sm.es, Sm.thn, Sm.els] at ih hname hexs f3 f4 f5 ⊢
  clear hrow he
  have hX : rightM (.mk k s l tt u) level = ((decide (level ≤ 24) && (decide (k = 4) || decide (u.length = 0)) && (decide (k = 4) || decide (k = 5) || decide (tt.length = 0))) && (if k = 1 ∨ k = 2 ∨ k = 6 then nameB s else decide (s = [])) && fitS k l.length && rightE l (level + 1) && rightS tt (level + 1) && rightS u (level + 1)) := rfl
  rw [he2] at hX
  clear he2
  refine con_of 110 [.tmp 4] Try.func52 rfl rfl rfl rfl ?_
  refine awp_cutK (fun fr H => ∃ b, fr 1 = .int .i64 level ∧ fr 2 = .ptr 5 b 0 0 ∧ H b = some (.rows 5 [[.int .i64 k, .str s, .isl 5 (l.map Ex.row), .isl 5 (tt.map Sm.row), .isl 5 (u.map Sm.row)]])) (fun K hK => ?_) ?_
  · refine awp_region rfl ?_; simp only [RR, seval]
    refine awpN_intro fun b hb => ?_; simp only [RR, seval]
    exact hK _ _ ⟨b, rfl, rfl, upd_same _ _ _⟩
  rintro fr H ⟨b, f1, f2, hb⟩
  refine awp_seq ?_
  refine awp_cutK (fun fr H => ∃ t, fr 36 = .bool t ∧ (t = !(decide (level ≤ 24) && (decide (k = 4) || decide (u.length = 0)) && (decide (k = 4) || decide (k = 5) || decide (tt.length = 0)))) ∧ fr 1 = .int .i64 level ∧ fr 2 = .ptr 5 b 0 0 ∧ H b = some (.rows 5 [[.int .i64 k, .str s, .isl 5 (l.map Ex.row), .isl 5 (tt.map Sm.row), .isl 5 (u.map Sm.row)]])) (fun K hK => ?_) ?_
  · have d1 : decide ((0 : Int) < u.length) = !decide (u.length = 0) := by rw [Bool.eq_iff_iff]; simp only [decide_eq_true_eq, Bool.not_eq_true', decide_eq_false_iff_not]; omega
    have d2 : decide ((0 : Int) < tt.length) = !decide (tt.length = 0) := by rw [Bool.eq_iff_iff]; simp only [decide_eq_true_eq, Bool.not_eq_true', decide_eq_false_iff_not]; omega
    refine awp_region rfl ?_; simp only [RR, seval]
    simp only [f1, f2, hb, List.length_map, d1, d2, RR, seval]
    repeat' ((first | refine awpG_splitN (fun h => ?_) (fun h => ?_) | refine awpG_split (fun h => ?_) (fun h => ?_)) <;> simp only [h, f1, f2, hb, List.length_map, d1, d2, RR, seval])
    all_goals
      refine hK _ _ ⟨_, rfl, ?_, f1, f2, hb⟩
      clear hK
      simp_all <;> omega
  rintro fr H ⟨t, f36, ht, f1, f2, hb⟩
  refine awp_if _ f36 (fun hc => ?_) (fun hc => ?_)
  · have := bneg ht hc
    refine awp_seq_k fun K hK => ?_; refine awp_region rfl ?_; simp only [RR, seval]
    refine hK _ _ ?_; clear hK K
    refine awp_ret ?_; simp only [thenQ, blockQ, bodyQ, aresult, ares, argF, RR, seval]; refine Gives.pure ?_
    rw [hX, this]; rfl
  have h3 := bpos ht hc
  have hlev : level ≤ 24 := by simp only [Bool.and_eq_true, decide_eq_true_eq] at h3; exact h3.1.1
  rw [h3, Bool.true_and] at hX
  have ih2 := ih hlev
  have hexs2 := hexs (by omega)
  clear ht hc f36 t
  refine awp_skip ?_; simp only [thenQ, blockQ]
  refine awp_cutK (fun fr H => fr 5 = .bool (decide (k = 1 ∨ k = 2 ∨ k = 6)) ∧ fr 1 = .int .i64 level ∧ fr 2 = .ptr 5 b 0 0 ∧ H b = some (.rows 5 [[.int .i64 k, .str s, .isl 5 (l.map Ex.row), .isl 5 (tt.map Sm.row), .isl 5 (u.map Sm.row)]])) (fun K hK => ?_) ?_
  · refine awp_region rfl ?_; simp only [RR, seval]
    simp only [f1, f2, hb, RR, seval]
    repeat' ((first | refine awpG_splitN (fun h => ?_) (fun h => ?_) | refine awpG_split (fun h => ?_) (fun h => ?_)) <;> simp only [h, f1, f2, hb, RR, seval])
    all_goals
      refine hK _ _ ⟨?_, f1, f2, hb⟩
      clear hK
      simp [upd]
      simp_all
  rintro fr H ⟨f5, f1, f2, hb⟩
  refine awp_seq ?_
  refine awp_cutK (fun fr H => ∃ t, fr 63 = .bool t ∧ (t = !(if k = 1 ∨ k = 2 ∨ k = 6 then nameB s else decide (s = []))) ∧ fr 1 = .int .i64 level ∧ fr 2 = .ptr 5 b 0 0 ∧ H b = some (.rows 5 [[.int .i64 k, .str s, .isl 5 (l.map Ex.row), .isl 5 (tt.map Sm.row), .isl 5 (u.map Sm.row)]])) (fun K hK => ?_) ?_
  · by_cases hk : k = 1 ∨ k = 2 ∨ k = 6
    · have e1 : decide (k = 1 ∨ k = 2 ∨ k = 6) = true := decide_eq_true hk
      rw [e1] at f5
      by_cases hsn : s = []
      · have e2 : decide (s = []) = true := decide_eq_true hsn
        refine awp_region rfl ?_; simp only [RR, seval]
        simp only [f1, f2, f5, hb, e2, RR, seval]
        exact hK _ _ ⟨_, rfl, by rw [if_pos hk, hsn]; rfl, f1, f2, hb⟩
      · have e2 : decide (s = []) = false := decide_eq_false hsn
        refine awp_region rfl ?_; simp only [RR, seval]
        simp only [f1, f2, f5, hb, e2, RR, seval]
        refine awpC_pure' hname ?_; simp only [RR, seval]
        refine hK _ _ ⟨_, rfl, by rw [if_pos hk], f1, f2, hb⟩
    · have e1 : decide (k = 1 ∨ k = 2 ∨ k = 6) = false := decide_eq_false hk
      rw [e1] at f5
      by_cases hsn : s = []
      · have e2 : decide (s = []) = true := decide_eq_true hsn
        refine awp_region rfl ?_; simp only [RR, seval]
        simp only [f1, f2, f5, hb, e2, RR, seval]
        exact hK _ _ ⟨_, rfl, by rw [if_neg hk, e2]; rfl, f1, f2, hb⟩
      · have e2 : decide (s = []) = false := decide_eq_false hsn
        refine awp_region rfl ?_; simp only [RR, seval]
        simp only [f1, f2, f5, hb, e2, RR, seval]
        exact hK _ _ ⟨_, rfl, by rw [if_neg hk, e2]; rfl, f1, f2, hb⟩
  rintro fr H ⟨t, f63, ht, f1, f2, hb⟩
  refine awp_if _ f63 (fun hc => ?_) (fun hc => ?_)
  · have := bneg ht hc
    refine awp_seq_k fun K hK => ?_; refine awp_region rfl ?_; simp only [RR, seval]
    refine hK _ _ ?_; clear hK K
    refine awp_ret ?_; simp only [thenQ, blockQ, bodyQ, aresult, ares, argF, RR, seval]; refine Gives.pure ?_
    rw [hX, this]; rfl
  rw [bpos ht hc, Bool.true_and] at hX
  clear ht hc f63 t h3
  refine awp_skip ?_; simp only [thenQ, blockQ]
  refine awp_seq_k fun K hK => ?_; refine awp_region rfl ?_; simp only [RR, seval]
  simp only [f2, hb, List.length_map, RR, seval]
  refine hK _ _ ?_; clear hK K
  refine awp_seq_k fun K hK => ?_; refine awp_region rfl ?_; simp only [RR, seval]
  refine hK _ _ ?_; clear hK K
  have w1 : IntKind.wrap .i64 (level + 1) = level + 1 := IntWalk.i64_in _ (by omega)
  refine awp_cutK (fun fr H => fr 7 = .bool (fitS k l.length) ∧ fr 1 = .int .i64 level ∧ fr 2 = .ptr 5 b 0 0 ∧ H b = some (.rows 5 [[.int .i64 k, .str s, .isl 5 (l.map Ex.row), .isl 5 (tt.map Sm.row), .isl 5 (u.map Sm.row)]])) (fun K hK => ?_) ?_
  · have d1 : decide ((l.length : Int) = 1) = decide (l.length = 1) := by rw [Bool.eq_iff_iff]; simp only [decide_eq_true_eq]; omega
    have d2 : decide ((l.length : Int) = 2) = decide (l.length = 2) := by rw [Bool.eq_iff_iff]; simp only [decide_eq_true_eq]; omega
    have d6 : decide ((l.length : Int) ≤ 6) = decide (l.length ≤ 6) := by rw [Bool.eq_iff_iff]; simp only [decide_eq_true_eq]; omega
    have d7 : decide ((l.length : Int) ≤ 1) = decide (l.length ≤ 1) := by rw [Bool.eq_iff_iff]; simp only [decide_eq_true_eq]; omega
    by_cases k1 : k = 1
    · subst k1
      repeat' (first | (refine awp_seq_k fun K hK => ?_; refine awp_region rfl ?_; simp only [f2, hb, d1, RR, seval]; refine hK _ _ ?_; clear hK K) | (refine awp_seq ?_) | (refine awp_block ?_) | (refine awp_if true rfl (fun _ => ?_) (fun hc => by cases hc)) | (refine awp_if false rfl (fun hc => by cases hc) (fun _ => ?_)) | (refine awp_skip ?_; simp only [thenQ, blockQ]) | (refine awp_exit ?_; simp only [thenQ, blockQ, reduceIte, Nat.reduceEqDiff]) | (refine awp_region rfl ?_; simp only [f2, hb, d1, thenQ, blockQ, RR, seval]) | (refine awpG_splitN (fun h => ?_) (fun h => ?_) <;> simp only [h, f2, hb, d1, thenQ, blockQ, RR, seval]) | (refine awpG_split (fun h => ?_) (fun h => ?_) <;> simp only [h, f2, hb, d1, thenQ, blockQ, RR, seval]) | (refine awp_if _ rfl (fun h => ?_) (fun h => ?_)) | (refine awp_ret ?_; simp only [thenQ, blockQ, bodyQ, aresult, ares, argF, f2, hb, d1, RR, seval]; refine Gives.pure ?_))
      exact hK _ _ ⟨rfl, f1, f2, hb⟩
    by_cases k1 : k = 3
    · subst k1
      repeat' (first | (refine awp_seq_k fun K hK => ?_; refine awp_region rfl ?_; simp only [f2, hb, d1, RR, seval]; refine hK _ _ ?_; clear hK K) | (refine awp_seq ?_) | (refine awp_block ?_) | (refine awp_if true rfl (fun _ => ?_) (fun hc => by cases hc)) | (refine awp_if false rfl (fun hc => by cases hc) (fun _ => ?_)) | (refine awp_skip ?_; simp only [thenQ, blockQ]) | (refine awp_exit ?_; simp only [thenQ, blockQ, reduceIte, Nat.reduceEqDiff]) | (refine awp_region rfl ?_; simp only [f2, hb, d1, thenQ, blockQ, RR, seval]) | (refine awpG_splitN (fun h => ?_) (fun h => ?_) <;> simp only [h, f2, hb, d1, thenQ, blockQ, RR, seval]) | (refine awpG_split (fun h => ?_) (fun h => ?_) <;> simp only [h, f2, hb, d1, thenQ, blockQ, RR, seval]) | (refine awp_if _ rfl (fun h => ?_) (fun h => ?_)) | (refine awp_ret ?_; simp only [thenQ, blockQ, bodyQ, aresult, ares, argF, f2, hb, d1, RR, seval]; refine Gives.pure ?_))
      exact hK _ _ ⟨rfl, f1, f2, hb⟩
    by_cases k1 : k = 4
    · subst k1
      repeat' (first | (refine awp_seq_k fun K hK => ?_; refine awp_region rfl ?_; simp only [f2, hb, d1, RR, seval]; refine hK _ _ ?_; clear hK K) | (refine awp_seq ?_) | (refine awp_block ?_) | (refine awp_if true rfl (fun _ => ?_) (fun hc => by cases hc)) | (refine awp_if false rfl (fun hc => by cases hc) (fun _ => ?_)) | (refine awp_skip ?_; simp only [thenQ, blockQ]) | (refine awp_exit ?_; simp only [thenQ, blockQ, reduceIte, Nat.reduceEqDiff]) | (refine awp_region rfl ?_; simp only [f2, hb, d1, thenQ, blockQ, RR, seval]) | (refine awpG_splitN (fun h => ?_) (fun h => ?_) <;> simp only [h, f2, hb, d1, thenQ, blockQ, RR, seval]) | (refine awpG_split (fun h => ?_) (fun h => ?_) <;> simp only [h, f2, hb, d1, thenQ, blockQ, RR, seval]) | (refine awp_if _ rfl (fun h => ?_) (fun h => ?_)) | (refine awp_ret ?_; simp only [thenQ, blockQ, bodyQ, aresult, ares, argF, f2, hb, d1, RR, seval]; refine Gives.pure ?_))
      exact hK _ _ ⟨rfl, f1, f2, hb⟩
    by_cases k1 : k = 5
    · subst k1
      repeat' (first | (refine awp_seq_k fun K hK => ?_; refine awp_region rfl ?_; simp only [f2, hb, d1, RR, seval]; refine hK _ _ ?_; clear hK K) | (refine awp_seq ?_) | (refine awp_block ?_) | (refine awp_if true rfl (fun _ => ?_) (fun hc => by cases hc)) | (refine awp_if false rfl (fun hc => by cases hc) (fun _ => ?_)) | (refine awp_skip ?_; simp only [thenQ, blockQ]) | (refine awp_exit ?_; simp only [thenQ, blockQ, reduceIte, Nat.reduceEqDiff]) | (refine awp_region rfl ?_; simp only [f2, hb, d1, thenQ, blockQ, RR, seval]) | (refine awpG_splitN (fun h => ?_) (fun h => ?_) <;> simp only [h, f2, hb, d1, thenQ, blockQ, RR, seval]) | (refine awpG_split (fun h => ?_) (fun h => ?_) <;> simp only [h, f2, hb, d1, thenQ, blockQ, RR, seval]) | (refine awp_if _ rfl (fun h => ?_) (fun h => ?_)) | (refine awp_ret ?_; simp only [thenQ, blockQ, bodyQ, aresult, ares, argF, f2, hb, d1, RR, seval]; refine Gives.pure ?_))
      exact hK _ _ ⟨rfl, f1, f2, hb⟩
    by_cases k1 : k = 2
    · subst k1
      repeat' (first | (refine awp_seq_k fun K hK => ?_; refine awp_region rfl ?_; simp only [f2, hb, d2, RR, seval]; refine hK _ _ ?_; clear hK K) | (refine awp_seq ?_) | (refine awp_block ?_) | (refine awp_if true rfl (fun _ => ?_) (fun hc => by cases hc)) | (refine awp_if false rfl (fun hc => by cases hc) (fun _ => ?_)) | (refine awp_skip ?_; simp only [thenQ, blockQ]) | (refine awp_exit ?_; simp only [thenQ, blockQ, reduceIte, Nat.reduceEqDiff]) | (refine awp_region rfl ?_; simp only [f2, hb, d2, thenQ, blockQ, RR, seval]) | (refine awpG_splitN (fun h => ?_) (fun h => ?_) <;> simp only [h, f2, hb, d2, thenQ, blockQ, RR, seval]) | (refine awpG_split (fun h => ?_) (fun h => ?_) <;> simp only [h, f2, hb, d2, thenQ, blockQ, RR, seval]) | (refine awp_if _ rfl (fun h => ?_) (fun h => ?_)) | (refine awp_ret ?_; simp only [thenQ, blockQ, bodyQ, aresult, ares, argF, f2, hb, d2, RR, seval]; refine Gives.pure ?_))
      exact hK _ _ ⟨rfl, f1, f2, hb⟩
    by_cases k1 : k = 6
    · subst k1
      repeat' (first | (refine awp_seq_k fun K hK => ?_; refine awp_region rfl ?_; simp only [f2, hb, d6, RR, seval]; refine hK _ _ ?_; clear hK K) | (refine awp_seq ?_) | (refine awp_block ?_) | (refine awp_if true rfl (fun _ => ?_) (fun hc => by cases hc)) | (refine awp_if false rfl (fun hc => by cases hc) (fun _ => ?_)) | (refine awp_skip ?_; simp only [thenQ, blockQ]) | (refine awp_exit ?_; simp only [thenQ, blockQ, reduceIte, Nat.reduceEqDiff]) | (refine awp_region rfl ?_; simp only [f2, hb, d6, thenQ, blockQ, RR, seval]) | (refine awpG_splitN (fun h => ?_) (fun h => ?_) <;> simp only [h, f2, hb, d6, thenQ, blockQ, RR, seval]) | (refine awpG_split (fun h => ?_) (fun h => ?_) <;> simp only [h, f2, hb, d6, thenQ, blockQ, RR, seval]) | (refine awp_if _ rfl (fun h => ?_) (fun h => ?_)) | (refine awp_ret ?_; simp only [thenQ, blockQ, bodyQ, aresult, ares, argF, f2, hb, d6, RR, seval]; refine Gives.pure ?_))
      exact hK _ _ ⟨rfl, f1, f2, hb⟩
    by_cases k1 : k = 7
    · subst k1
      repeat' (first | (refine awp_seq_k fun K hK => ?_; refine awp_region rfl ?_; simp only [f2, hb, d7, RR, seval]; refine hK _ _ ?_; clear hK K) | (refine awp_seq ?_) | (refine awp_block ?_) | (refine awp_if true rfl (fun _ => ?_) (fun hc => by cases hc)) | (refine awp_if false rfl (fun hc => by cases hc) (fun _ => ?_)) | (refine awp_skip ?_; simp only [thenQ, blockQ]) | (refine awp_exit ?_; simp only [thenQ, blockQ, reduceIte, Nat.reduceEqDiff]) | (refine awp_region rfl ?_; simp only [f2, hb, d7, thenQ, blockQ, RR, seval]) | (refine awpG_splitN (fun h => ?_) (fun h => ?_) <;> simp only [h, f2, hb, d7, thenQ, blockQ, RR, seval]) | (refine awpG_split (fun h => ?_) (fun h => ?_) <;> simp only [h, f2, hb, d7, thenQ, blockQ, RR, seval]) | (refine awp_if _ rfl (fun h => ?_) (fun h => ?_)) | (refine awp_ret ?_; simp only [thenQ, blockQ, bodyQ, aresult, ares, argF, f2, hb, d7, RR, seval]; refine Gives.pure ?_))
      exact hK _ _ ⟨rfl, f1, f2, hb⟩
    have g1 : decide (k = 1) = false := decide_eq_false (by assumption)
    have g2 : decide (k = 2) = false := decide_eq_false (by assumption)
    have g3 : decide (k = 3) = false := decide_eq_false (by assumption)
    have g4 : decide (k = 4) = false := decide_eq_false (by assumption)
    have g5 : decide (k = 5) = false := decide_eq_false (by assumption)
    have g6 : decide (k = 6) = false := decide_eq_false (by assumption)
    have g7 : decide (k = 7) = false := decide_eq_false (by assumption)
    repeat' (first | (refine awp_seq_k fun K hK => ?_; refine awp_region rfl ?_; simp only [f2, hb, g1, g2, g3, g4, g5, g6, g7, RR, seval]; refine hK _ _ ?_; clear hK K) | (refine awp_seq ?_) | (refine awp_block ?_) | (refine awp_if true rfl (fun _ => ?_) (fun hc => by cases hc)) | (refine awp_if false rfl (fun hc => by cases hc) (fun _ => ?_)) | (refine awp_skip ?_; simp only [thenQ, blockQ]) | (refine awp_exit ?_; simp only [thenQ, blockQ, reduceIte, Nat.reduceEqDiff]) | (refine awp_region rfl ?_; simp only [f2, hb, g1, g2, g3, g4, g5, g6, g7, thenQ, blockQ, RR, seval]) | (refine awpG_splitN (fun h => ?_) (fun h => ?_) <;> simp only [h, f2, hb, g1, g2, g3, g4, g5, g6, g7, thenQ, blockQ, RR, seval]) | (refine awpG_split (fun h => ?_) (fun h => ?_) <;> simp only [h, f2, hb, g1, g2, g3, g4, g5, g6, g7, thenQ, blockQ, RR, seval]) | (refine awp_if _ rfl (fun h => ?_) (fun h => ?_)) | (refine awp_ret ?_; simp only [thenQ, blockQ, bodyQ, aresult, ares, argF, f2, hb, g1, g2, g3, g4, g5, g6, g7, RR, seval]; refine Gives.pure ?_))
    exact hK _ _ ⟨by simp [fitS, *, upd], f1, f2, hb⟩
  rintro fr H ⟨f7, f1, f2, hb⟩
  subst hX
  cases hf : fitS k l.length with
  | false =>
    rw [hf] at f7
    repeat' (first | (refine awp_seq_k fun K hK => ?_; refine awp_region rfl ?_; simp only [f7, RR, seval]; refine hK _ _ ?_; clear hK K) | (refine awp_seq ?_) | (refine awp_block ?_) | (refine awp_if true rfl (fun _ => ?_) (fun hc => by cases hc)) | (refine awp_if false rfl (fun hc => by cases hc) (fun _ => ?_)) | (refine awp_skip ?_; simp only [thenQ, blockQ]) | (refine awp_exit ?_; simp only [thenQ, blockQ, reduceIte, Nat.reduceEqDiff]) | (refine awp_region rfl ?_; simp only [f7, thenQ, blockQ, RR, seval]) | (refine awpG_splitN (fun h => ?_) (fun h => ?_) <;> simp only [h, f7, thenQ, blockQ, RR, seval]) | (refine awpG_split (fun h => ?_) (fun h => ?_) <;> simp only [h, f7, thenQ, blockQ, RR, seval]) | (refine awp_if _ rfl (fun h => ?_) (fun h => ?_)) | (refine awp_ret ?_; simp only [thenQ, blockQ, bodyQ, aresult, ares, argF, f7, RR, seval]; refine Gives.pure ?_))
    rfl
  | true =>
    rw [hf] at f7
    cases hx : rightE l (level + 1) with
    | false =>
      rw [hx] at hexs2
      repeat' (first | (refine awp_seq_k fun K hK => ?_; refine awp_region rfl ?_; simp only [f1, f2, f7, hb, w1, RR, seval]; refine hK _ _ ?_; clear hK K) | (refine awp_seq ?_) | (refine awp_block ?_) | (refine awp_if true rfl (fun _ => ?_) (fun hc => by cases hc)) | (refine awp_if false rfl (fun hc => by cases hc) (fun _ => ?_)) | (refine awp_skip ?_; simp only [thenQ, blockQ]) | (refine awp_exit ?_; simp only [thenQ, blockQ, reduceIte, Nat.reduceEqDiff]) | (refine awp_region rfl ?_; simp only [f1, f2, f7, hb, w1, thenQ, blockQ, RR, seval]) | (refine awpG_splitN (fun h => ?_) (fun h => ?_) <;> simp only [h, f1, f2, f7, hb, w1, thenQ, blockQ, RR, seval]) | (refine awpG_split (fun h => ?_) (fun h => ?_) <;> simp only [h, f1, f2, f7, hb, w1, thenQ, blockQ, RR, seval]) | (refine awp_if _ rfl (fun h => ?_) (fun h => ?_)) | (refine awp_ret ?_; simp only [thenQ, blockQ, bodyQ, aresult, ares, argF, f1, f2, f7, hb, w1, RR, seval]; refine Gives.pure ?_) | (refine awpC_pure' (hexs2) ?_; simp only [f1, f2, f7, hb, w1, thenQ, blockQ, RR, seval]))
      rfl
    | true =>
      rw [hx] at hexs2
      have c1 := ih2 tt (.inl rfl)
      have c2 := ih2 u (.inr rfl)
      refine awp_seq_k fun K hK => ?_; refine awp_region rfl ?_; simp only [RR, seval]
      simp only [f1, f2, f7, hb, w1, RR, seval]
      refine awpC_pure' hexs2 ?_; simp only [RR, seval]
      simp only [f1, f2, f7, hb, w1, RR, seval]
      refine awpC_pure' c1 ?_; simp only [RR, seval]
      cases ht : rightS tt (level + 1) with
      | false =>
        simp only [RR, seval]
        refine hK _ _ ?_; clear hK K
        refine awp_ret ?_; simp only [thenQ, blockQ, bodyQ, aresult, ares, argF, RR, seval]; refine Gives.pure ?_
        rw [ht]; rfl
      | true =>
        simp only [f1, f2, f7, hb, w1, RR, seval]
        refine awpC_pure' c2 ?_; simp only [RR, seval]
        refine hK _ _ ?_; clear hK K
        refine awp_ret ?_; simp only [thenQ, blockQ, bodyQ, aresult, ares, argF, RR, seval]; refine Gives.pure ?_
        rw [ht]; rfl
theorem RightStmts_con (n : Nat) : ∀ (l : List Sm) (level : Int), szS l = n → okS l → -1000000 ≤ level → level ≤ 1000000 → PCon env 38 [.isl 5 (l.map Sm.row), .int .i64 level] (.bool (rightS l level)) := by
  induction n using Nat.strongRecOn with
  | _ n ih =>
    intro l level hn hok h1 h2
    have hfit : l.length ≤ 9223372036854775807 := hok.fit
    refine con_of 19 [.tmp 4] Try.func38 rfl rfl rfl rfl ?_
    refine awp_seq_k fun K hK => ?_; refine awp_region rfl ?_; simp only [RR, seval]
    refine hK _ _ ?_; clear hK K
    refine awp_cutK (fun fr H => rightS l level = true) (fun K hK => ?_) ?_
    · refine awp_seq_k fun K hK => ?_; refine awp_region rfl ?_; simp only [RR, seval]
      refine hK _ _ ?_; clear hK K
      refine awp_block ?_
      refine awp_loopK (fun mm fr H => ∃ k : Nat, mm = l.length - k ∧ k ≤ l.length ∧ fr 5 = .int .i64 k ∧ fr 0 = .isl 5 (l.map Sm.row) ∧ fr 1 = .int .i64 level ∧ rightS l level = rightS (l.drop k) level) (l.length) ⟨0, rfl, Nat.zero_le _, rfl, rfl, rfl, by rw [List.drop_zero]⟩ ?_
      rintro mm fr H ⟨k, rfl, hkk, hik, h0, f1, hall⟩ K2 hK2
      refine awp_seq ?_
      refine awp_seq_k fun K hK => ?_; refine awp_region rfl ?_; simp only [RR, seval]
      simp only [hik, h0,List.length_map, RR, seval]
      refine hK _ _ ?_; clear hK K
      refine awp_if _ rfl (fun hc => ?_) (fun hc => ?_)
      · have hltk : k < l.length := by have := of_decide_eq_true hc; omega
        clear hc
        refine awp_skip ?_; simp only [thenQ, blockQ]
        refine awp_seq ?_
        refine awp_block ?_
        have hg := getRow Sm.row (List.getElem?_eq_getElem hltk)
        have hmem := List.getElem_mem hltk
        have he := hok.all _ hmem
        have hsz := szS_mem hmem
        rw [List.drop_eq_getElem_cons hltk, rightS_cons] at hall
        generalize l[k] = e at hg hall he hsz
        have hse := e.sz_eq
        have hl5 := e.row_len
        have hcon := RightStmt_step e he level h1 h2 (fun hle x hx => by
          rcases hx with rfl | rfl
          · exact ih _ (by omega) e.thn (level + 1) rfl he.thn (by omega) (by omega)
          · exact ih _ (by omega) e.els (level + 1) rfl he.els (by omega) (by omega))
        refine awp_seq_k fun K hK => ?_; refine awp_region rfl ?_; simp only [RR, seval]
        simp only [h0, f1, hik, hg, hl5, RR, seval]
        rw [List.take_of_length_le (by omega)]
        refine awpC_pure' hcon ?_; simp only [RR, seval]
        refine hK _ _ ?_; clear hK K
        refine awp_if (!rightM e level) rfl (fun hc => ?_) (fun hc => ?_)
        · refine awp_seq_k fun K hK => ?_; refine awp_region rfl ?_; simp only [RR, seval]
          refine hK _ _ ?_; clear hK K
          refine awp_ret ?_; simp only [thenQ, blockQ, bodyQ, aresult, ares, argF, RR, seval]; refine Gives.pure ?_
          rw [hall, show rightM e level = false by simpa using hc]; rfl
        · refine awp_skip ?_; simp only [thenQ, blockQ]
          rw [show rightM e level = true by simpa using hc, Bool.true_and] at hall
          refine awp_region rfl ?_; simp only [RR, seval]
          simp only [hik, thenQ, blockQ, RR, seval]
          rw [IntWalk.i64_in _ (by omega)]
          refine hK2 (l.length - (k + 1)) _ _ (by omega) ⟨k + 1, rfl, by omega, rfl, h0, f1, hall⟩
      · refine awp_exit ?_; simp only [thenQ, blockQ, reduceIte, Nat.reduceEqDiff]
        have hknk : k = l.length := by have := of_decide_eq_false hc; omega
        clear hc
        subst hknk
        rw [List.drop_length, rightS_nil] at hall
        exact hK _ _ hall
    · rintro fr H h0
      refine awp_seq_k fun K hK => ?_; refine awp_region rfl ?_; simp only [RR, seval]
      refine hK _ _ ?_; clear hK K
      refine awp_ret ?_; simp only [thenQ, blockQ, bodyQ, aresult, ares, argF, RR, seval]; refine Gives.pure ?_
      rw [h0]
end Go.Proofs.Ytlokndnkpleegaa
