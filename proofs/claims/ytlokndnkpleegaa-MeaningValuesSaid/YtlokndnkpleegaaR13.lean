/- The names of the language: the judge's small functions of chapter 13. -/
import Derived.Test.YtlokndnkpleegaaTyB
set_option linter.unusedSimpArgs false
set_option linter.unusedVariables false
set_option maxRecDepth 10000
namespace Go.Proofs.Ytlokndnkpleegaa
open Go.Al
def digI (c : Int) : Bool := decide (48 ≤ c) && decide (c ≤ 57)
def alphI (c : Int) : Bool := decide (97 ≤ c) && decide (c ≤ 122) || decide (65 ≤ c) && decide (c ≤ 90)
def inI (c : Int) : Bool := alphI c || digI c || decide (c = 95)
def isN (c : UInt8) : Bool := inI c.toNat
theorem rdigit_con (c : Int) : PCon env 74 [.int .u8 c] (.bool (digI c)) := by
  refine con_of 9 [.tmp 2] Try.func74 rfl rfl rfl rfl ?_
  refine awp_seq_k fun K hK => ?_; refine awp_region rfl ?_; simp only [RR, seval]
  refine hK _ _ ?_; clear hK K
  refine awp_seq_k fun K hK => ?_; refine awp_region rfl ?_; simp only [RR, seval]
  repeat' ((first | refine awpG_splitN (fun h => ?_) (fun h => ?_) | refine awpG_split (fun h => ?_) (fun h => ?_)) <;> simp only [h, RR, seval])
  all_goals
    refine hK _ _ ?_; clear hK K
    refine awp_ret ?_; simp only [thenQ, blockQ, bodyQ, aresult, ares, argF, RR, seval]; refine Gives.pure ?_
    simp [digI, *]
theorem ralpha_con (c : Int) : PCon env 71 [.int .u8 c] (.bool (alphI c)) := by
  refine con_of 17 [.tmp 2] Try.func71 rfl rfl rfl rfl ?_
  refine awp_seq_k fun K hK => ?_; refine awp_region rfl ?_; simp only [RR, seval]
  refine hK _ _ ?_; clear hK K
  refine awp_seq_k fun K hK => ?_; refine awp_region rfl ?_; simp only [RR, seval]
  repeat' ((first | refine awpG_splitN (fun h => ?_) (fun h => ?_) | refine awpG_split (fun h => ?_) (fun h => ?_)) <;> simp only [h, RR, seval])
  all_goals
    refine hK _ _ ?_; clear hK K
    refine awp_ret ?_; simp only [thenQ, blockQ, bodyQ, aresult, ares, argF, RR, seval]; refine Gives.pure ?_
    simp [alphI, *]
theorem words_con : PCon env 73 [] (.isl 1 (wordsL.map fun w => [.str w])) := by
  refine con_of 2 [.tmp 0] Try.func73 rfl rfl rfl rfl ?_
  refine awp_seq_k fun K hK => ?_; refine awp_region rfl ?_; simp only [RR, seval]
  refine hK _ _ ?_; clear hK K
  refine awp_seq_k fun K hK => ?_; refine awp_region rfl ?_; simp only [RR, seval]
  refine awpB_sealed ?_
  simp only [RR, seval]
  refine hK _ _ ?_; clear hK K
  refine awp_ret ?_; simp only [thenQ, blockQ, bodyQ, aresult, ares, argF, RR, seval]; refine Gives.pure ?_
  rfl
theorem in_con (ws : List (List UInt8)) (s : List UInt8) (hl : ws.length ≤ 1000000) : PCon env 72 [.isl 1 (ws.map fun w => [.str w]), .str s] (.bool (ws.contains s)) := by
  refine con_of 18 [.tmp 4] Try.func72 rfl rfl rfl rfl ?_
  refine awp_seq_k fun K hK => ?_; refine awp_region rfl ?_; simp only [RR, seval]
  refine hK _ _ ?_; clear hK K
  refine awp_cut (fun fr H => ws.contains s = false) ?_ ?_
  · refine awp_seq_k fun K hK => ?_; refine awp_region rfl ?_; simp only [RR, seval]
    refine hK _ _ ?_; clear hK K
    refine awp_block ?_
    refine awp_loop (fun n fr H => ∃ i : Nat, n = ws.length - i ∧ i ≤ ws.length ∧ (ws.take i).contains s = false ∧ fr 0 = .isl 1 (ws.map fun w => [.str w]) ∧ fr 1 = .str s ∧ fr 5 = .int .i64 i) ws.length ⟨0, rfl, by omega, rfl, rfl, rfl, rfl⟩ ?_
    rintro n fr H ⟨i, rfl, hi, hw, h0, h1, h5⟩
    refine awp_seq ?_
    refine awp_seq_k fun K hK => ?_; refine awp_region rfl ?_; simp only [RR, seval]
    simp only [h0, h5, RR, seval]
    refine hK _ _ ?_; clear hK K
    refine awp_if _ rfl (fun hc => ?_) (fun hc => ?_)
    · refine awp_skip ?_; simp only [thenQ, blockQ]
      have hi2 : (i : Int) < (ws.map fun w => [AV.str w]).length := of_decide_eq_true hc
      simp only [List.length_map] at hi2
      have hl : i < ws.length := by omega
      have hg : (ws.map fun w => [AV.str w])[i]? = some [.str ws[i]] := by rw [List.getElem?_map, List.getElem?_eq_getElem hl]; rfl
      refine awp_seq ?_
      refine awp_block ?_
      refine awp_seq_k fun K hK => ?_; refine awp_region rfl ?_; simp only [RR, seval]
      simp only [h0, h1, h5, hg, RR, seval]
      refine hK _ _ ?_; clear hK K
      refine awp_if _ rfl (fun hc => ?_) (fun hc => ?_)
      · refine awp_seq_k fun K hK => ?_; refine awp_region rfl ?_; simp only [RR, seval]
        refine hK _ _ ?_; clear hK K
        refine awp_ret ?_; simp only [thenQ, blockQ, bodyQ, aresult, ares, argF, RR, seval]; refine Gives.pure ?_
        have : ws[i] = s := of_decide_eq_true hc
        rw [← this]
        simp
      · refine awp_skip ?_; simp only [thenQ, blockQ]
        refine awp_region rfl ?_; simp only [RR, seval]
        simp only [h0, h1, h5, RR, seval]
        refine ⟨ws.length - (i + 1), by omega, i + 1, rfl, by omega, ?_, ?_⟩
        · have hne : ¬ ws[i] = s := of_decide_eq_false hc
          rw [List.take_succ_eq_append_getElem hl]
          simp only [List.contains_append, hw, Bool.false_or]
          simp [Ne.symm hne]
        · rw [IntWalk.i64_in _ (by omega)]; rfl
    · refine awp_exit ?_; simp only [thenQ, blockQ, reduceIte, Nat.reduceEqDiff]
      have hi2 : ¬ (i : Int) < (ws.map fun w => [AV.str w]).length := of_decide_eq_false hc
      simp only [List.length_map] at hi2
      have : i = ws.length := by omega
      subst this
      rw [List.take_length] at hw
      exact hw
  · intro fr H h
    refine awp_seq_k fun K hK => ?_; refine awp_region rfl ?_; simp only [RR, seval]
    refine hK _ _ ?_; clear hK K
    refine awp_ret ?_; simp only [thenQ, blockQ, bodyQ, aresult, ares, argF, RR, seval]; refine Gives.pure ?_
    rw [h]
def nameB (s : List UInt8) : Bool := match s with
  | [] => false
  | c :: r => decide ((c :: r).length ≤ 20) && (alphI c.toNat && (decide ((c :: r).takeWhile isN = c :: r) && !wordsL.contains (c :: r)))
theorem takeWhile_all (p : UInt8 → Bool) : ∀ s : List UInt8, decide (s.takeWhile p = s) = s.all p
  | [] => rfl
  | c :: s => by
    cases h : p c with
    | true =>
      simp only [List.takeWhile, h, List.all_cons, Bool.true_and, List.cons.injEq, true_and]
      exact takeWhile_all p s
    | false => simp [List.takeWhile, h]
theorem rName_con (s : List UInt8) (hs : fitL s) : PCon env 51 [.str s] (.bool (nameB s)) := by
  have hs : s.length ≤ 9223372036854775807 := hs
  refine con_of 47 [.tmp 2] Try.func51 rfl rfl rfl rfl ?_
  refine awp_seq_k fun K hK => ?_; refine awp_region rfl ?_; simp only [RR, seval]
  refine hK _ _ ?_; clear hK K
  refine awp_seq ?_
  refine awp_cutK (fun fr H => ∃ t, fr 22 = .bool t ∧ fr 0 = .str s ∧ (t = true → nameB s = false) ∧ (t = false → nameB s = s.all isN)) (fun K hK => ?_) ?_
  · cases hsc : s with
    | nil =>
      refine awp_region rfl ?_; simp only [RR, seval]
      exact hK _ _ ⟨true, rfl, by rw [hsc]; rfl, fun _ => by rw [hsc]; rfl, fun e => by cases e⟩
    | cons c r =>
      have h0 : (c :: r)[0]? = some c := rfl
      have hne : decide (((c :: r).length : Int) = 0) = false := decide_eq_false (by simp only [List.length_cons]; omega)
      rw [← hsc] at h0 hne ⊢
      have hB : nameB s = (decide (s.length ≤ 20) && (alphI c.toNat && (s.all isN && !wordsL.contains s))) := by rw [← takeWhile_all, hsc]; rfl
      clear hsc
      refine awp_region rfl ?_; simp only [RR, seval]
      simp only [hne, h0, RR, seval]
      refine awpG_splitN (fun h => ?_) (fun h => ?_) <;> simp only [h, h0, RR, seval]
      · have hl : decide (s.length ≤ 20) = true := decide_eq_true (by have := of_decide_eq_false h; omega)
        refine awpC_pure' (ralpha_con _) ?_
        simp only [RR, seval]
        refine awpG_splitN (fun ha => ?_) (fun ha => ?_)
        · have ha : alphI c.toNat = true := by simpa using ha
          simp only [ha, h0, RR, seval]
          refine awpC_pure' words_con ?_
          simp only [RR, seval]
          refine awpC_pure' (in_con wordsL s (by decide)) ?_
          simp only [RR, seval]
          refine hK _ _ ⟨_, rfl, rfl, fun e => ?_, fun e => ?_⟩
          · rw [hB, e]; simp
          · rw [hB, e, hl, ha]; simp
        · have ha : alphI c.toNat = false := by simpa using ha
          simp only [ha, h0, RR, seval]
          exact hK _ _ ⟨_, rfl, rfl, fun e => by rw [hB, ha]; simp, fun e => by cases e⟩
      · have hl : decide (s.length ≤ 20) = false := decide_eq_false (by have := of_decide_eq_true h; omega)
        exact hK _ _ ⟨_, rfl, rfl, fun e => by rw [hB, hl]; rfl, fun e => by cases e⟩
  · rintro fr H ⟨t, h22, h0, ht, hf⟩
    refine awp_if _ h22 (fun hc => ?_) (fun hc => ?_)
    · refine awp_seq_k fun K hK => ?_; refine awp_region rfl ?_; simp only [RR, seval]
      refine hK _ _ ?_; clear hK K
      refine awp_ret ?_; simp only [thenQ, blockQ, bodyQ, aresult, ares, argF, RR, seval]; refine Gives.pure ?_
      rw [ht hc]
    · have hall := hf hc
      refine awp_skip ?_; simp only [thenQ, blockQ]
      refine awp_cutK (fun fr H => s.all isN = true) (fun K hK => ?_) ?_
      · refine awp_seq_k fun K hK => ?_; refine awp_region rfl ?_; simp only [RR, seval]
        refine hK _ _ ?_; clear hK K
        refine awp_block ?_
        refine awp_loopK (fun n fr H => ∃ i : Nat, n = s.length - i ∧ i ≤ s.length ∧ fr 0 = .str s ∧ fr 3 = .int .i64 i ∧ s.all isN = (s.drop i).all isN) s.length ⟨0, rfl, by omega, h0, rfl, by simp⟩ ?_
        rintro n fr H ⟨i, rfl, hi, h0, h3, hsall⟩ K2 hK2
        refine awp_seq ?_
        refine awp_seq_k fun K hK => ?_; refine awp_region rfl ?_; simp only [RR, seval]
        simp only [h0, h3, RR, seval]
        refine hK _ _ ?_; clear hK K
        refine awp_if _ rfl (fun hc => ?_) (fun hc => ?_)
        · have hl : i < s.length := by have := of_decide_eq_true hc; omega
          have hg : s[i]? = some s[i] := List.getElem?_eq_getElem hl
          rw [List.drop_eq_getElem_cons hl] at hsall
          simp only [List.all_cons] at hsall
          generalize s[i] = e at hg hsall
          refine awp_skip ?_; simp only [thenQ, blockQ]
          refine awp_seq ?_
          refine awp_block ?_
          refine awp_cutK (fun fr H => fr 46 = .bool (!isN e) ∧ fr 0 = .str s ∧ fr 3 = .int .i64 i) (fun K hK => ?_) ?_
          · refine awp_region rfl ?_; simp only [RR, seval]
            simp only [h0, h3, hg, RR, seval]
            refine awpC_pure' (ralpha_con _) ?_
            simp only [RR, seval]
            refine awpG_splitN (fun ha => ?_) (fun ha => ?_) <;> simp only [ha, h0, h3, hg, RR, seval]
            · refine awpC_pure' (rdigit_con _) ?_
              simp only [RR, seval]
              refine awpG_splitN (fun hd => ?_) (fun hd => ?_) <;> simp only [hd, h0, h3, hg, RR, seval]
              · repeat' ((first | refine awpG_splitN (fun h => ?_) (fun h => ?_) | refine awpG_split (fun h => ?_) (fun h => ?_)) <;> simp only [h, h0, h3, hg, RR, seval])
                all_goals exact hK _ _ ⟨by simp [upd, isN, inI, ha, hd], h0, h3⟩
              · exact hK _ _ ⟨by simp [upd, isN, inI, ha, hd], h0, h3⟩
            · exact hK _ _ ⟨by simp [upd, isN, inI, ha], h0, h3⟩
          · rintro fr H ⟨h46, h0, h3⟩
            refine awp_if _ h46 (fun hc => ?_) (fun hc => ?_)
            · have he : isN e = false := by simpa using hc
              refine awp_seq_k fun K hK => ?_; refine awp_region rfl ?_; simp only [RR, seval]
              refine hK _ _ ?_; clear hK K
              refine awp_ret ?_; simp only [thenQ, blockQ, bodyQ, aresult, ares, argF, RR, seval]; refine Gives.pure ?_
              rw [hall, hsall, he]; rfl
            · have he : isN e = true := by simpa using hc
              rw [he, Bool.true_and] at hsall
              refine awp_skip ?_; simp only [thenQ, blockQ]
              refine awp_region rfl ?_; simp only [RR, seval]
              simp only [h3, RR, seval]
              rw [IntWalk.i64_in _ (by omega)]
              exact hK2 (s.length - (i + 1)) _ _ (by omega) ⟨i + 1, rfl, by omega, h0, rfl, hsall⟩
        · refine awp_exit ?_; simp only [thenQ, blockQ, reduceIte, Nat.reduceEqDiff]
          have : i = s.length := by have := of_decide_eq_false hc; omega
          subst this
          rw [List.drop_length] at hsall
          exact hK _ _ hsall
      · intro fr H h
        refine awp_seq_k fun K hK => ?_; refine awp_region rfl ?_; simp only [RR, seval]
        refine hK _ _ ?_; clear hK K
        refine awp_ret ?_; simp only [thenQ, blockQ, bodyQ, aresult, ares, argF, RR, seval]; refine Gives.pure ?_
        rw [hall, h]
end Go.Proofs.Ytlokndnkpleegaa
