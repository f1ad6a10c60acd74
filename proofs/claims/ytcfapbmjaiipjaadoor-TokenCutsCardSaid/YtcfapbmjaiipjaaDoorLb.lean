/- Chapter 13: the law TokenBack. -/
import Derived.Test.YtcfapbmjaiipjaaDoorLl
set_option linter.unusedSimpArgs false
set_option linter.unusedVariables false
namespace Go.Proofs.YtcfapbmjaiipjaaDoor
open Go.Al
def sepOf (long : Bool) : List UInt8 := if long then [32, 47, 47, 39, 10, 9] else [32]
theorem sep_bl (long : Bool) : ∃ q, sepOf long = 32 :: q ∧ Bl false (32 :: q) := by
  cases long
  · exact ⟨[], rfl, .ws 32 [] (by decide) .nil⟩
  · refine ⟨[47, 47, 39, 10, 9], rfl, .ws 32 _ (by decide) ?_⟩
    exact .com [47, 47, 39] [9] (by decide) (by decide) (.ws 10 [9] (by decide) (.ws 9 [] (by decide) .nil))
theorem sep_len (long : Bool) : (sepOf long).length ≤ 6 := by cases long <;> decide
theorem flat_app (sep : List UInt8) : ∀ l m : List Tok, flat sep (l ++ m) = flat sep l ++ flat sep m
  | [], m => rfl
  | t :: l, m => by simp only [List.cons_append, flat, flat_app sep l m, List.append_assoc]
theorem flat_len (sep : List UInt8) {s : List UInt8} {i : Nat} {x : Except (Nat × Int) (List Tok)} (h : Big s i x) : ∀ l, x = .ok l → (flat sep l).length ≤ s.length + sep.length * l.length := by
  induction h with
  | done b i h => intro l e; cases e; simp [flat]
  | bad => intro l e; cases e
  | tok b s' r t i x hbl ht hxx ih =>
    intro l e
    obtain ⟨l', e1, rfl⟩ := map_ok e
    have h1 := ih l' e1
    have hlen := congrArg List.length ht.split
    rw [List.length_append] at hlen
    simp only [flat, List.length_append, List.length_cons, Nat.mul_add, Nat.mul_one]
    omega
theorem back_lex (long : Bool) {s : List UInt8} (hs : s.length ≤ 300) {l : List Tok} (hl : lexS s = .ok l) : (sepOf long ++ flat (sepOf long) l).length ≤ 2200 ∧ ∃ m, lexS (sepOf long ++ flat (sepOf long) l) = .ok m ∧ likeB l m = true := by
  have hb := lexB (s := s) (by omega)
  have h1 := flat_len (sepOf long) hb l hl
  have h2 := sep_len long
  have h3 := lexS_len s
  rw [hl] at h3
  simp only [toksOf] at h3
  have h4 : (sepOf long).length * l.length ≤ 6 * l.length := Nat.mul_le_mul_right _ h2
  have h5 : (sepOf long ++ flat (sepOf long) l).length ≤ 2200 := by rw [List.length_append]; omega
  refine ⟨h5, ?_⟩
  rw [lexS_small (by omega)]
  obtain ⟨q, e, hbl⟩ := sep_bl long
  rw [e]
  obtain ⟨m, g1, g2⟩ := back hbl (by decide) hb l hl (0 + (32 :: q).length)
  exact ⟨m, by rw [hbl.lex]; exact g1, g2⟩
theorem TokenBack_con (s : List UInt8) (long : Bool) : PCon env 4 [.str s, .bool long] (.bool true) := by
  refine con_of 69 [.tmp 4] Tryd.func4 rfl rfl rfl rfl ?_
  refine awp_seq_k fun K hK => ?_; refine awp_region rfl ?_; simp only [AL, TY, aq, aint, astr, aWant, isPtr, abnd, ahi, alo, aload, rd, newObj, alit, aparts, astore, amapset, cellsOf, ev, avOf, av1, putF, upd, argF, TK.agg, aapp, asrc, one, aq.abuild, Nat.reduceEqDiff, Nat.reduceAdd, Nat.reduceLT, Nat.reduceLeDiff, Nat.reduceMul, Nat.reduceSub, reduceIte, reduceCtorEq, Int.reduceLE, Int.reduceToNat, Int.reduceLT, Int.reduceEq, Int.reduceAdd, Int.reduceSub, Int.reduceMul, Int.reduceNeg]
  refine hK _ _ ?_; clear hK K
  refine awp_seq ?_
  refine awp_seq_k fun K hK => ?_; refine awp_region rfl ?_; simp only [AL, TY, aq, aint, astr, aWant, isPtr, abnd, ahi, alo, aload, rd, newObj, alit, aparts, astore, amapset, cellsOf, ev, avOf, av1, putF, upd, argF, TK.agg, aapp, asrc, one, aq.abuild, Nat.reduceEqDiff, Nat.reduceAdd, Nat.reduceLT, Nat.reduceLeDiff, Nat.reduceMul, Nat.reduceSub, reduceIte, reduceCtorEq, Int.reduceLE, Int.reduceToNat, Int.reduceLT, Int.reduceEq, Int.reduceAdd, Int.reduceSub, Int.reduceMul, Int.reduceNeg]
  refine awpC_pure' alive_con ?_
  simp only [AL, TY, aq, aint, astr, aWant, isPtr, abnd, ahi, alo, aload, rd, newObj, alit, aparts, astore, amapset, cellsOf, ev, avOf, av1, putF, upd, argF, TK.agg, aapp, asrc, one, aq.abuild, Nat.reduceEqDiff, Nat.reduceAdd, Nat.reduceLT, Nat.reduceLeDiff, Nat.reduceMul, Nat.reduceSub, reduceIte, reduceCtorEq, Int.reduceLE, Int.reduceToNat, Int.reduceLT, Int.reduceEq, Int.reduceAdd, Int.reduceSub, Int.reduceMul, Int.reduceNeg]
  refine hK _ _ ?_; clear hK K
  refine awp_if false rfl (fun hc => by cases hc) (fun _ => ?_)
  refine awp_skip ?_; simp only [thenQ, blockQ]
  refine awp_seq ?_
  refine awp_seq_k fun K hK => ?_; refine awp_region rfl ?_; simp only [AL, TY, aq, aint, astr, aWant, isPtr, abnd, ahi, alo, aload, rd, newObj, alit, aparts, astore, amapset, cellsOf, ev, avOf, av1, putF, upd, argF, TK.agg, aapp, asrc, one, aq.abuild, Nat.reduceEqDiff, Nat.reduceAdd, Nat.reduceLT, Nat.reduceLeDiff, Nat.reduceMul, Nat.reduceSub, reduceIte, reduceCtorEq, Int.reduceLE, Int.reduceToNat, Int.reduceLT, Int.reduceEq, Int.reduceAdd, Int.reduceSub, Int.reduceMul, Int.reduceNeg]
  refine hK _ _ ?_; clear hK K
  refine awp_if _ rfl (fun hc => ?_) (fun hc => ?_)
  · refine awp_seq_k fun K hK => ?_; refine awp_region rfl ?_; simp only [AL, TY, aq, aint, astr, aWant, isPtr, abnd, ahi, alo, aload, rd, newObj, alit, aparts, astore, amapset, cellsOf, ev, avOf, av1, putF, upd, argF, TK.agg, aapp, asrc, one, aq.abuild, Nat.reduceEqDiff, Nat.reduceAdd, Nat.reduceLT, Nat.reduceLeDiff, Nat.reduceMul, Nat.reduceSub, reduceIte, reduceCtorEq, Int.reduceLE, Int.reduceToNat, Int.reduceLT, Int.reduceEq, Int.reduceAdd, Int.reduceSub, Int.reduceMul, Int.reduceNeg]
    refine hK _ _ ?_; clear hK K
    refine awp_ret ?_; simp only [thenQ, blockQ, bodyQ, aresult, ares, argF, AL, TY, aq, aint, astr, aWant, isPtr, abnd, ahi, alo, aload, rd, newObj, alit, aparts, astore, amapset, cellsOf, ev, avOf, av1, putF, upd, argF, TK.agg, aapp, asrc, one, aq.abuild, Nat.reduceEqDiff, Nat.reduceAdd, Nat.reduceLT, Nat.reduceLeDiff, Nat.reduceMul, Nat.reduceSub, reduceIte, reduceCtorEq, Int.reduceLE, Int.reduceToNat, Int.reduceLT, Int.reduceEq, Int.reduceAdd, Int.reduceSub, Int.reduceMul, Int.reduceNeg]; refine Gives.pure ?_
    rfl
  · have hs : s.length ≤ 300 := by have := of_decide_eq_false hc; omega
    refine awp_skip ?_; simp only [thenQ, blockQ]
    cases hl : lexS s with
    | error p =>
      have he : decide (p.2 = 0) = false := decide_eq_false (lexS_e0 (p := p.1) (e := p.2) hl)
      refine awp_seq_k fun K hK => ?_; refine awp_region rfl ?_; simp only [AL, TY, aq, aint, astr, aWant, isPtr, abnd, ahi, alo, aload, rd, newObj, alit, aparts, astore, amapset, cellsOf, ev, avOf, av1, putF, upd, argF, TK.agg, aapp, asrc, one, aq.abuild, Nat.reduceEqDiff, Nat.reduceAdd, Nat.reduceLT, Nat.reduceLeDiff, Nat.reduceMul, Nat.reduceSub, reduceIte, reduceCtorEq, Int.reduceLE, Int.reduceToNat, Int.reduceLT, Int.reduceEq, Int.reduceAdd, Int.reduceSub, Int.reduceMul, Int.reduceNeg]
      refine awpC_pure' (lexT_err s (by omega) (p := p.1) (e := p.2) hl) ?_; simp only [AL, TY, aq, aint, astr, aWant, isPtr, abnd, ahi, alo, aload, rd, newObj, alit, aparts, astore, amapset, cellsOf, ev, avOf, av1, putF, upd, argF, TK.agg, aapp, asrc, one, aq.abuild, Nat.reduceEqDiff, Nat.reduceAdd, Nat.reduceLT, Nat.reduceLeDiff, Nat.reduceMul, Nat.reduceSub, reduceIte, reduceCtorEq, Int.reduceLE, Int.reduceToNat, Int.reduceLT, Int.reduceEq, Int.reduceAdd, Int.reduceSub, Int.reduceMul, Int.reduceNeg]
      refine hK _ _ ?_; clear hK K
      refine awp_seq ?_
      refine awp_seq_k fun K hK => ?_; refine awp_region rfl ?_; simp only [AL, TY, aq, aint, astr, aWant, isPtr, abnd, ahi, alo, aload, rd, newObj, alit, aparts, astore, amapset, cellsOf, ev, avOf, av1, putF, upd, argF, TK.agg, aapp, asrc, one, aq.abuild, Nat.reduceEqDiff, Nat.reduceAdd, Nat.reduceLT, Nat.reduceLeDiff, Nat.reduceMul, Nat.reduceSub, reduceIte, reduceCtorEq, Int.reduceLE, Int.reduceToNat, Int.reduceLT, Int.reduceEq, Int.reduceAdd, Int.reduceSub, Int.reduceMul, Int.reduceNeg]
      simp only [he, AL, TY, aq, aint, astr, aWant, isPtr, abnd, ahi, alo, aload, rd, newObj, alit, aparts, astore, amapset, cellsOf, ev, avOf, av1, putF, upd, argF, TK.agg, aapp, asrc, one, aq.abuild, Nat.reduceEqDiff, Nat.reduceAdd, Nat.reduceLT, Nat.reduceLeDiff, Nat.reduceMul, Nat.reduceSub, reduceIte, reduceCtorEq, Int.reduceLE, Int.reduceToNat, Int.reduceLT, Int.reduceEq, Int.reduceAdd, Int.reduceSub, Int.reduceMul, Int.reduceNeg]
      refine hK _ _ ?_; clear hK K
      refine awp_if true rfl (fun _ => ?_) (fun hc => by cases hc)
      refine awp_seq_k fun K hK => ?_; refine awp_region rfl ?_; simp only [AL, TY, aq, aint, astr, aWant, isPtr, abnd, ahi, alo, aload, rd, newObj, alit, aparts, astore, amapset, cellsOf, ev, avOf, av1, putF, upd, argF, TK.agg, aapp, asrc, one, aq.abuild, Nat.reduceEqDiff, Nat.reduceAdd, Nat.reduceLT, Nat.reduceLeDiff, Nat.reduceMul, Nat.reduceSub, reduceIte, reduceCtorEq, Int.reduceLE, Int.reduceToNat, Int.reduceLT, Int.reduceEq, Int.reduceAdd, Int.reduceSub, Int.reduceMul, Int.reduceNeg]
      refine hK _ _ ?_; clear hK K
      refine awp_ret ?_; simp only [thenQ, blockQ, bodyQ, aresult, ares, argF, AL, TY, aq, aint, astr, aWant, isPtr, abnd, ahi, alo, aload, rd, newObj, alit, aparts, astore, amapset, cellsOf, ev, avOf, av1, putF, upd, argF, TK.agg, aapp, asrc, one, aq.abuild, Nat.reduceEqDiff, Nat.reduceAdd, Nat.reduceLT, Nat.reduceLeDiff, Nat.reduceMul, Nat.reduceSub, reduceIte, reduceCtorEq, Int.reduceLE, Int.reduceToNat, Int.reduceLT, Int.reduceEq, Int.reduceAdd, Int.reduceSub, Int.reduceMul, Int.reduceNeg]; refine Gives.pure ?_
      rfl
    | ok l =>
      have hll := lexS_len s
      rw [hl] at hll
      simp only [toksOf] at hll
      obtain ⟨hfl, m, hm, hlk⟩ := back_lex long hs hl
      have hml := lexS_len' (sepOf long ++ flat (sepOf long) l)
      rw [hm] at hml
      simp only [toksOf] at hml
      have e1 : decide ((300 : Int) < ((l.map Tok.row).length : Int)) = false := decide_eq_false (by rw [List.length_map]; omega)
      have e2 : decide ((300 : Int) < (l.length : Int)) = false := decide_eq_false (by omega)
      refine awp_seq_k fun K hK => ?_; refine awp_region rfl ?_; simp only [AL, TY, aq, aint, astr, aWant, isPtr, abnd, ahi, alo, aload, rd, newObj, alit, aparts, astore, amapset, cellsOf, ev, avOf, av1, putF, upd, argF, TK.agg, aapp, asrc, one, aq.abuild, Nat.reduceEqDiff, Nat.reduceAdd, Nat.reduceLT, Nat.reduceLeDiff, Nat.reduceMul, Nat.reduceSub, reduceIte, reduceCtorEq, Int.reduceLE, Int.reduceToNat, Int.reduceLT, Int.reduceEq, Int.reduceAdd, Int.reduceSub, Int.reduceMul, Int.reduceNeg]
      refine awpC_pure' (lexT_ok s (by omega) hl) ?_; simp only [AL, TY, aq, aint, astr, aWant, isPtr, abnd, ahi, alo, aload, rd, newObj, alit, aparts, astore, amapset, cellsOf, ev, avOf, av1, putF, upd, argF, TK.agg, aapp, asrc, one, aq.abuild, Nat.reduceEqDiff, Nat.reduceAdd, Nat.reduceLT, Nat.reduceLeDiff, Nat.reduceMul, Nat.reduceSub, reduceIte, reduceCtorEq, Int.reduceLE, Int.reduceToNat, Int.reduceLT, Int.reduceEq, Int.reduceAdd, Int.reduceSub, Int.reduceMul, Int.reduceNeg]
      refine hK _ _ ?_; clear hK K
      refine awp_seq ?_
      refine awp_seq_k fun K hK => ?_; refine awp_region rfl ?_; simp only [AL, TY, aq, aint, astr, aWant, isPtr, abnd, ahi, alo, aload, rd, newObj, alit, aparts, astore, amapset, cellsOf, ev, avOf, av1, putF, upd, argF, TK.agg, aapp, asrc, one, aq.abuild, Nat.reduceEqDiff, Nat.reduceAdd, Nat.reduceLT, Nat.reduceLeDiff, Nat.reduceMul, Nat.reduceSub, reduceIte, reduceCtorEq, Int.reduceLE, Int.reduceToNat, Int.reduceLT, Int.reduceEq, Int.reduceAdd, Int.reduceSub, Int.reduceMul, Int.reduceNeg]
      simp only [List.length_map, e1, e2, AL, TY, aq, aint, astr, aWant, isPtr, abnd, ahi, alo, aload, rd, newObj, alit, aparts, astore, amapset, cellsOf, ev, avOf, av1, putF, upd, argF, TK.agg, aapp, asrc, one, aq.abuild, Nat.reduceEqDiff, Nat.reduceAdd, Nat.reduceLT, Nat.reduceLeDiff, Nat.reduceMul, Nat.reduceSub, reduceIte, reduceCtorEq, Int.reduceLE, Int.reduceToNat, Int.reduceLT, Int.reduceEq, Int.reduceAdd, Int.reduceSub, Int.reduceMul, Int.reduceNeg]
      refine hK _ _ ?_; clear hK K
      refine awp_if false rfl (fun hc => by cases hc) (fun _ => ?_)
      refine awp_skip ?_; simp only [thenQ, blockQ]
      refine awp_seq_k fun K hK => ?_; refine awp_region rfl ?_; simp only [AL, TY, aq, aint, astr, aWant, isPtr, abnd, ahi, alo, aload, rd, newObj, alit, aparts, astore, amapset, cellsOf, ev, avOf, av1, putF, upd, argF, TK.agg, aapp, asrc, one, aq.abuild, Nat.reduceEqDiff, Nat.reduceAdd, Nat.reduceLT, Nat.reduceLeDiff, Nat.reduceMul, Nat.reduceSub, reduceIte, reduceCtorEq, Int.reduceLE, Int.reduceToNat, Int.reduceLT, Int.reduceEq, Int.reduceAdd, Int.reduceSub, Int.reduceMul, Int.reduceNeg]
      refine hK _ _ ?_; clear hK K
      refine awp_cutK (fun fr H => fr 5 = .isl 4 (l.map Tok.row) ∧ fr 8 = .str (sepOf long)) (fun K hK => ?_) ?_
      · refine awp_seq_k fun K hK => ?_; refine awp_region rfl ?_; simp only [AL, TY, aq, aint, astr, aWant, isPtr, abnd, ahi, alo, aload, rd, newObj, alit, aparts, astore, amapset, cellsOf, ev, avOf, av1, putF, upd, argF, TK.agg, aapp, asrc, one, aq.abuild, Nat.reduceEqDiff, Nat.reduceAdd, Nat.reduceLT, Nat.reduceLeDiff, Nat.reduceMul, Nat.reduceSub, reduceIte, reduceCtorEq, Int.reduceLE, Int.reduceToNat, Int.reduceLT, Int.reduceEq, Int.reduceAdd, Int.reduceSub, Int.reduceMul, Int.reduceNeg]
        refine hK _ _ ?_; clear hK K
        refine awp_if long rfl (fun hc => ?_) (fun hc => ?_)
        · refine awp_region rfl ?_; simp only [AL, TY, aq, aint, astr, aWant, isPtr, abnd, ahi, alo, aload, rd, newObj, alit, aparts, astore, amapset, cellsOf, ev, avOf, av1, putF, upd, argF, TK.agg, aapp, asrc, one, aq.abuild, Nat.reduceEqDiff, Nat.reduceAdd, Nat.reduceLT, Nat.reduceLeDiff, Nat.reduceMul, Nat.reduceSub, reduceIte, reduceCtorEq, Int.reduceLE, Int.reduceToNat, Int.reduceLT, Int.reduceEq, Int.reduceAdd, Int.reduceSub, Int.reduceMul, Int.reduceNeg]
          subst hc
          exact hK _ _ ⟨rfl, rfl⟩
        · refine awp_skip ?_; simp only [thenQ, blockQ]
          subst hc
          exact hK _ _ ⟨rfl, rfl⟩
      · rintro fr H ⟨h5, h8⟩
        refine awp_seq_k fun K hK => ?_; refine awp_region rfl ?_; simp only [AL, TY, aq, aint, astr, aWant, isPtr, abnd, ahi, alo, aload, rd, newObj, alit, aparts, astore, amapset, cellsOf, ev, avOf, av1, putF, upd, argF, TK.agg, aapp, asrc, one, aq.abuild, Nat.reduceEqDiff, Nat.reduceAdd, Nat.reduceLT, Nat.reduceLeDiff, Nat.reduceMul, Nat.reduceSub, reduceIte, reduceCtorEq, Int.reduceLE, Int.reduceToNat, Int.reduceLT, Int.reduceEq, Int.reduceAdd, Int.reduceSub, Int.reduceMul, Int.reduceNeg]
        simp only [h8, AL, TY, aq, aint, astr, aWant, isPtr, abnd, ahi, alo, aload, rd, newObj, alit, aparts, astore, amapset, cellsOf, ev, avOf, av1, putF, upd, argF, TK.agg, aapp, asrc, one, aq.abuild, Nat.reduceEqDiff, Nat.reduceAdd, Nat.reduceLT, Nat.reduceLeDiff, Nat.reduceMul, Nat.reduceSub, reduceIte, reduceCtorEq, Int.reduceLE, Int.reduceToNat, Int.reduceLT, Int.reduceEq, Int.reduceAdd, Int.reduceSub, Int.reduceMul, Int.reduceNeg]
        refine hK _ _ ?_; clear hK K
        refine awp_cutK (fun fr H => fr 5 = .isl 4 (l.map Tok.row) ∧ fr 9 = .str (sepOf long ++ flat (sepOf long) l)) (fun K hK => ?_) ?_
        · refine awp_seq_k fun K hK => ?_; refine awp_region rfl ?_; simp only [AL, TY, aq, aint, astr, aWant, isPtr, abnd, ahi, alo, aload, rd, newObj, alit, aparts, astore, amapset, cellsOf, ev, avOf, av1, putF, upd, argF, TK.agg, aapp, asrc, one, aq.abuild, Nat.reduceEqDiff, Nat.reduceAdd, Nat.reduceLT, Nat.reduceLeDiff, Nat.reduceMul, Nat.reduceSub, reduceIte, reduceCtorEq, Int.reduceLE, Int.reduceToNat, Int.reduceLT, Int.reduceEq, Int.reduceAdd, Int.reduceSub, Int.reduceMul, Int.reduceNeg]
          refine hK _ _ ?_; clear hK K
          refine awp_block ?_
          refine awp_loopK (fun n fr H => ∃ k : Nat, n = l.length - k ∧ k ≤ l.length ∧ fr 5 = .isl 4 (l.map Tok.row) ∧ fr 8 = .str (sepOf long) ∧ fr 9 = .str (sepOf long ++ flat (sepOf long) (l.take k)) ∧ fr 10 = .int .i64 k) l.length ⟨0, rfl, by omega, h5, h8, by simp [flat, upd], rfl⟩ ?_
          rintro n fr H ⟨k, rfl, hk, h5, h8, h9, h10⟩ K2 hK2
          refine awp_seq ?_
          refine awp_seq_k fun K hK => ?_; refine awp_region rfl ?_; simp only [AL, TY, aq, aint, astr, aWant, isPtr, abnd, ahi, alo, aload, rd, newObj, alit, aparts, astore, amapset, cellsOf, ev, avOf, av1, putF, upd, argF, TK.agg, aapp, asrc, one, aq.abuild, Nat.reduceEqDiff, Nat.reduceAdd, Nat.reduceLT, Nat.reduceLeDiff, Nat.reduceMul, Nat.reduceSub, reduceIte, reduceCtorEq, Int.reduceLE, Int.reduceToNat, Int.reduceLT, Int.reduceEq, Int.reduceAdd, Int.reduceSub, Int.reduceMul, Int.reduceNeg]
          simp only [h5, h10, List.length_map, AL, TY, aq, aint, astr, aWant, isPtr, abnd, ahi, alo, aload, rd, newObj, alit, aparts, astore, amapset, cellsOf, ev, avOf, av1, putF, upd, argF, TK.agg, aapp, asrc, one, aq.abuild, Nat.reduceEqDiff, Nat.reduceAdd, Nat.reduceLT, Nat.reduceLeDiff, Nat.reduceMul, Nat.reduceSub, reduceIte, reduceCtorEq, Int.reduceLE, Int.reduceToNat, Int.reduceLT, Int.reduceEq, Int.reduceAdd, Int.reduceSub, Int.reduceMul, Int.reduceNeg]
          refine hK _ _ ?_; clear hK K
          refine awp_if _ rfl (fun hc => ?_) (fun hc => ?_)
          · have hkl : k < l.length := by have := of_decide_eq_true hc; omega
            have hg : (l.map Tok.row)[k]? = some l[k].row := by rw [List.getElem?_map, List.getElem?_eq_getElem hkl]; rfl
            have htk : l.take (k + 1) = l.take k ++ [l[k]] := List.take_succ_eq_append_getElem hkl
            have hsplit : flat (sepOf long) l = flat (sepOf long) (l.take k) ++ (l[k].text ++ (sepOf long ++ flat (sepOf long) (l.drop (k + 1)))) := by
              conv => lhs; rw [← List.take_append_drop k l, flat_app, List.drop_eq_getElem_cons hkl]
              rfl
            have hlen := congrArg List.length hsplit
            rw [List.length_append] at hfl
            simp only [List.length_append] at hlen
            generalize l[k] = t at hg htk hlen
            have e1 : (sepOf long ++ flat (sepOf long) (l.take k)).length + t.text.length ≤ maxLen := by simp only [List.length_append, maxLen]; omega
            have e2 : (sepOf long ++ flat (sepOf long) (l.take k) ++ t.text).length + (sepOf long).length ≤ maxLen := by simp only [List.length_append, maxLen]; omega
            refine awp_skip ?_; simp only [thenQ, blockQ]
            refine awp_seq ?_
            refine awp_block ?_
            refine awp_region rfl ?_; simp only [h5, h8, h9, h10, hg, Tok.row, e1, e2, thenQ, blockQ, AL, TY, aq, aint, astr, aWant, isPtr, abnd, ahi, alo, aload, rd, newObj, alit, aparts, astore, amapset, cellsOf, ev, avOf, av1, putF, upd, argF, TK.agg, aapp, asrc, one, aq.abuild, Nat.reduceEqDiff, Nat.reduceAdd, Nat.reduceLT, Nat.reduceLeDiff, Nat.reduceMul, Nat.reduceSub, reduceIte, reduceCtorEq, Int.reduceLE, Int.reduceToNat, Int.reduceLT, Int.reduceEq, Int.reduceAdd, Int.reduceSub, Int.reduceMul, Int.reduceNeg]
            refine awp_region rfl ?_; simp only [h10, thenQ, blockQ, AL, TY, aq, aint, astr, aWant, isPtr, abnd, ahi, alo, aload, rd, newObj, alit, aparts, astore, amapset, cellsOf, ev, avOf, av1, putF, upd, argF, TK.agg, aapp, asrc, one, aq.abuild, Nat.reduceEqDiff, Nat.reduceAdd, Nat.reduceLT, Nat.reduceLeDiff, Nat.reduceMul, Nat.reduceSub, reduceIte, reduceCtorEq, Int.reduceLE, Int.reduceToNat, Int.reduceLT, Int.reduceEq, Int.reduceAdd, Int.reduceSub, Int.reduceMul, Int.reduceNeg]
            rw [IntWalk.i64_in _ (by omega)]
            refine hK2 (l.length - (k + 1)) _ _ (by omega) ⟨k + 1, rfl, by omega, h5, h8, ?_, rfl⟩
            rw [htk, flat_app]
            simp [upd, flat]
          · refine awp_exit ?_; simp only [thenQ, blockQ, reduceIte, Nat.reduceEqDiff]
            have : k = l.length := by have := of_decide_eq_false hc; omega
            subst this
            rw [List.take_length] at h9
            exact hK _ _ ⟨h5, h9⟩
        · rintro fr H ⟨h5, h9⟩
          refine awp_seq_k fun K hK => ?_; refine awp_region rfl ?_; simp only [AL, TY, aq, aint, astr, aWant, isPtr, abnd, ahi, alo, aload, rd, newObj, alit, aparts, astore, amapset, cellsOf, ev, avOf, av1, putF, upd, argF, TK.agg, aapp, asrc, one, aq.abuild, Nat.reduceEqDiff, Nat.reduceAdd, Nat.reduceLT, Nat.reduceLeDiff, Nat.reduceMul, Nat.reduceSub, reduceIte, reduceCtorEq, Int.reduceLE, Int.reduceToNat, Int.reduceLT, Int.reduceEq, Int.reduceAdd, Int.reduceSub, Int.reduceMul, Int.reduceNeg]
          simp only [h9, AL, TY, aq, aint, astr, aWant, isPtr, abnd, ahi, alo, aload, rd, newObj, alit, aparts, astore, amapset, cellsOf, ev, avOf, av1, putF, upd, argF, TK.agg, aapp, asrc, one, aq.abuild, Nat.reduceEqDiff, Nat.reduceAdd, Nat.reduceLT, Nat.reduceLeDiff, Nat.reduceMul, Nat.reduceSub, reduceIte, reduceCtorEq, Int.reduceLE, Int.reduceToNat, Int.reduceLT, Int.reduceEq, Int.reduceAdd, Int.reduceSub, Int.reduceMul, Int.reduceNeg]
          refine awpC_pure' (lexT_ok _ (by omega) hm) ?_; simp only [AL, TY, aq, aint, astr, aWant, isPtr, abnd, ahi, alo, aload, rd, newObj, alit, aparts, astore, amapset, cellsOf, ev, avOf, av1, putF, upd, argF, TK.agg, aapp, asrc, one, aq.abuild, Nat.reduceEqDiff, Nat.reduceAdd, Nat.reduceLT, Nat.reduceLeDiff, Nat.reduceMul, Nat.reduceSub, reduceIte, reduceCtorEq, Int.reduceLE, Int.reduceToNat, Int.reduceLT, Int.reduceEq, Int.reduceAdd, Int.reduceSub, Int.reduceMul, Int.reduceNeg]
          refine hK _ _ ?_; clear hK K
          have hlc := Like_con l m (by omega) hml
          rw [hlk] at hlc
          refine awp_seq_k fun K hK => ?_; refine awp_region rfl ?_; simp only [AL, TY, aq, aint, astr, aWant, isPtr, abnd, ahi, alo, aload, rd, newObj, alit, aparts, astore, amapset, cellsOf, ev, avOf, av1, putF, upd, argF, TK.agg, aapp, asrc, one, aq.abuild, Nat.reduceEqDiff, Nat.reduceAdd, Nat.reduceLT, Nat.reduceLeDiff, Nat.reduceMul, Nat.reduceSub, reduceIte, reduceCtorEq, Int.reduceLE, Int.reduceToNat, Int.reduceLT, Int.reduceEq, Int.reduceAdd, Int.reduceSub, Int.reduceMul, Int.reduceNeg]
          simp only [h5, AL, TY, aq, aint, astr, aWant, isPtr, abnd, ahi, alo, aload, rd, newObj, alit, aparts, astore, amapset, cellsOf, ev, avOf, av1, putF, upd, argF, TK.agg, aapp, asrc, one, aq.abuild, Nat.reduceEqDiff, Nat.reduceAdd, Nat.reduceLT, Nat.reduceLeDiff, Nat.reduceMul, Nat.reduceSub, reduceIte, reduceCtorEq, Int.reduceLE, Int.reduceToNat, Int.reduceLT, Int.reduceEq, Int.reduceAdd, Int.reduceSub, Int.reduceMul, Int.reduceNeg]
          refine awpC_pure' hlc ?_; simp only [AL, TY, aq, aint, astr, aWant, isPtr, abnd, ahi, alo, aload, rd, newObj, alit, aparts, astore, amapset, cellsOf, ev, avOf, av1, putF, upd, argF, TK.agg, aapp, asrc, one, aq.abuild, Nat.reduceEqDiff, Nat.reduceAdd, Nat.reduceLT, Nat.reduceLeDiff, Nat.reduceMul, Nat.reduceSub, reduceIte, reduceCtorEq, Int.reduceLE, Int.reduceToNat, Int.reduceLT, Int.reduceEq, Int.reduceAdd, Int.reduceSub, Int.reduceMul, Int.reduceNeg]
          refine hK _ _ ?_; clear hK K
          refine awp_ret ?_; simp only [thenQ, blockQ, bodyQ, aresult, ares, argF, AL, TY, aq, aint, astr, aWant, isPtr, abnd, ahi, alo, aload, rd, newObj, alit, aparts, astore, amapset, cellsOf, ev, avOf, av1, putF, upd, argF, TK.agg, aapp, asrc, one, aq.abuild, Nat.reduceEqDiff, Nat.reduceAdd, Nat.reduceLT, Nat.reduceLeDiff, Nat.reduceMul, Nat.reduceSub, reduceIte, reduceCtorEq, Int.reduceLE, Int.reduceToNat, Int.reduceLT, Int.reduceEq, Int.reduceAdd, Int.reduceSub, Int.reduceMul, Int.reduceNeg]; refine Gives.pure ?_
          rfl
end Go.Proofs.YtcfapbmjaiipjaaDoor
