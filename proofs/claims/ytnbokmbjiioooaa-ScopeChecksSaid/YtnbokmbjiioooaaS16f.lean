/- Chapter 16, the judge's: the calls of each function. -/
import Derived.Test.YtnbokmbjiioooaaS16e
set_option linter.unusedSimpArgs false
set_option linter.unusedVariables false
namespace Go.Proofs.Ytnbokmbjiioooaa
open Go.Al
set_option maxHeartbeats 4000000 in
theorem rCalls_con (p : Pg) (hp : p.few) : PCon env 15 [p.av] (.isl 1 ((callsP p).map intsRow)) := by
  have hok := hp.ok
  have ga := hp.f
  have hfind := fun i hi s => Find_con p hp i hi s
  have hC : callsP p = callsFrom p 0 p.funs := rfl
  have htake := callsFrom_take p p.funs 0
  have hfl := callsFrom_len p
  have hnil : callsFrom p 0 [] = [] := rfl
  have hrow : ∀ i f, callsRow p i f = ((List.range p.funs.length).filter fun n => (usesS f.body).any (isCall p i n)).map fun (n : Nat) => (n : Int) := fun _ _ => rfl
  have hq : ∀ i n u, isCall p i n u = (decide (u.kind = 4) && decide ((findF p i u.name).1 = 4) && decide ((findF p i u.name).2 = n)) := fun _ _ _ => rfl
  have hcall := fun i s => findF_call p i s
  have hfs := hp.fs
  have hokf := hok.funs
  generalize isCall p = q at *
  generalize callsRow p = CR at *
  generalize callsFrom p = CF at *
  generalize findF p = FF at *
  generalize callsP p = res at *
  obtain ⟨vs, aa, fs⟩ := p
  simp only [Pg.av, Pg.row] at hfind ⊢
  simp only at ga hfs hokf htake hC hrow hcall
  refine con_of 79 [.tmp 2] Try.func15 rfl rfl rfl rfl ?_
  refine awp_cutK (fun fr H => ∃ b, fr 1 = .ptr 3 b 0 0 ∧ H b = some (.rows 3 [[.isl 1 (vs.map strRow), .isl 2 (aa.map Ar.row), .isl 5 (fs.map Fu.row)]])) (fun K hK => ?_) ?_
  · refine awp_region rfl ?_; simp only [AL, TY, aq, aint, astr, aWant, isPtr, abnd, ahi, alo, aload, rd, newObj, alit, aparts, astore, amapset, cellsOf, ev, avOf, av1, putF, upd, argF, TK.agg, aapp, asrc, one, aq.abuild, Nat.reduceEqDiff, Nat.reduceAdd, Nat.reduceLT, Nat.reduceLeDiff, Nat.reduceMul, Nat.reduceSub, reduceIte, reduceCtorEq, Int.reduceLE, Int.reduceToNat, Int.reduceLT, Int.reduceEq, Int.reduceAdd, Int.reduceSub, Int.reduceMul, Int.reduceNeg]
    refine awpN_intro fun b hb => ?_; simp only [AL, TY, aq, aint, astr, aWant, isPtr, abnd, ahi, alo, aload, rd, newObj, alit, aparts, astore, amapset, cellsOf, ev, avOf, av1, putF, upd, argF, TK.agg, aapp, asrc, one, aq.abuild, Nat.reduceEqDiff, Nat.reduceAdd, Nat.reduceLT, Nat.reduceLeDiff, Nat.reduceMul, Nat.reduceSub, reduceIte, reduceCtorEq, Int.reduceLE, Int.reduceToNat, Int.reduceLT, Int.reduceEq, Int.reduceAdd, Int.reduceSub, Int.reduceMul, Int.reduceNeg]
    exact hK _ _ ⟨b, rfl, upd_same _ _ _⟩
  rintro fr H ⟨b, f1, hb⟩
  refine awp_seq_k fun K hK => ?_; refine awp_region rfl ?_; simp only [AL, TY, aq, aint, astr, aWant, isPtr, abnd, ahi, alo, aload, rd, newObj, alit, aparts, astore, amapset, cellsOf, ev, avOf, av1, putF, upd, argF, TK.agg, aapp, asrc, one, aq.abuild, Nat.reduceEqDiff, Nat.reduceAdd, Nat.reduceLT, Nat.reduceLeDiff, Nat.reduceMul, Nat.reduceSub, reduceIte, reduceCtorEq, Int.reduceLE, Int.reduceToNat, Int.reduceLT, Int.reduceEq, Int.reduceAdd, Int.reduceSub, Int.reduceMul, Int.reduceNeg]
  refine hK _ _ ?_; clear hK K
  refine awp_cutK (fun fr H => OwnL 1 (fr 3) (res.map intsRow) H) (fun K hK => ?_) ?_
  · refine awp_seq_k fun K hK => ?_; refine awp_region rfl ?_; simp only [AL, TY, aq, aint, astr, aWant, isPtr, abnd, ahi, alo, aload, rd, newObj, alit, aparts, astore, amapset, cellsOf, ev, avOf, av1, putF, upd, argF, TK.agg, aapp, asrc, one, aq.abuild, Nat.reduceEqDiff, Nat.reduceAdd, Nat.reduceLT, Nat.reduceLeDiff, Nat.reduceMul, Nat.reduceSub, reduceIte, reduceCtorEq, Int.reduceLE, Int.reduceToNat, Int.reduceLT, Int.reduceEq, Int.reduceAdd, Int.reduceSub, Int.reduceMul, Int.reduceNeg]
    refine hK _ _ ?_; clear hK K
    refine awp_block ?_
    refine awp_loopK (fun mm fr H => ∃ k : Nat, mm = fs.length - k ∧ k ≤ fs.length ∧ fr 4 = .int .i64 k ∧ fr 1 = .ptr 3 b 0 0 ∧ H b = some (.rows 3 [[.isl 1 (vs.map strRow), .isl 2 (aa.map Ar.row), .isl 5 (fs.map Fu.row)]]) ∧ OwnL 1 (fr 3) ((CF 0 (fs.take k)).map intsRow) H) (fs.length) ⟨0, rfl, Nat.zero_le _, rfl, f1, hb, .inl ⟨rfl, by rw [List.take_zero, hnil]; rfl⟩⟩ ?_
    rintro mm fr H ⟨k, rfl, hkk, hik, f1, hb, hout⟩ K2 hK2
    refine awp_seq ?_
    refine awp_seq_k fun K hK => ?_; refine awp_region rfl ?_; simp only [AL, TY, aq, aint, astr, aWant, isPtr, abnd, ahi, alo, aload, rd, newObj, alit, aparts, astore, amapset, cellsOf, ev, avOf, av1, putF, upd, argF, TK.agg, aapp, asrc, one, aq.abuild, Nat.reduceEqDiff, Nat.reduceAdd, Nat.reduceLT, Nat.reduceLeDiff, Nat.reduceMul, Nat.reduceSub, reduceIte, reduceCtorEq, Int.reduceLE, Int.reduceToNat, Int.reduceLT, Int.reduceEq, Int.reduceAdd, Int.reduceSub, Int.reduceMul, Int.reduceNeg]
    simp only [hik, f1, hb,List.length_map, AL, TY, aq, aint, astr, aWant, isPtr, abnd, ahi, alo, aload, rd, newObj, alit, aparts, astore, amapset, cellsOf, ev, avOf, av1, putF, upd, argF, TK.agg, aapp, asrc, one, aq.abuild, Nat.reduceEqDiff, Nat.reduceAdd, Nat.reduceLT, Nat.reduceLeDiff, Nat.reduceMul, Nat.reduceSub, reduceIte, reduceCtorEq, Int.reduceLE, Int.reduceToNat, Int.reduceLT, Int.reduceEq, Int.reduceAdd, Int.reduceSub, Int.reduceMul, Int.reduceNeg]
    refine hK _ _ ?_; clear hK K
    refine awp_if _ rfl (fun hc => ?_) (fun hc => ?_)
    · have hltk : k < fs.length := by have := of_decide_eq_true hc; omega
      clear hc
      refine awp_skip ?_; simp only [thenQ, blockQ]
      refine awp_seq ?_
      refine awp_block ?_
      have hg0 := List.getElem?_eq_getElem hltk
      have hg := getF hg0
      have hfsk := hfs _ (List.getElem_mem hltk)
      have hokk := hokf _ (List.getElem_mem hltk)
      have htk := htake k hltk
      rw [Nat.zero_add] at htk
      have hrk := hrow k fs[k]
      generalize fs[k] = g at hg hfsk hokk htk hrk
      have hus := Uses_con _ g.body rfl (by omega) hokk.body
      have hul := usesS_len _ g.body rfl
      have m1 : (0 : Int) ≤ (fs.length : Int) := by omega
      have m2 : (1 : Int) * (fs.length : Int) ≤ 281474976710656 := by omega
      have m3 : (fs.length : Int) ≤ 281474976710656 := by omega
      refine awp_seq_k fun K hK => ?_; refine awp_region rfl ?_; simp only [AL, TY, aq, aint, astr, aWant, isPtr, abnd, ahi, alo, aload, rd, newObj, alit, aparts, astore, amapset, cellsOf, ev, avOf, av1, putF, upd, argF, TK.agg, aapp, asrc, one, aq.abuild, Nat.reduceEqDiff, Nat.reduceAdd, Nat.reduceLT, Nat.reduceLeDiff, Nat.reduceMul, Nat.reduceSub, reduceIte, reduceCtorEq, Int.reduceLE, Int.reduceToNat, Int.reduceLT, Int.reduceEq, Int.reduceAdd, Int.reduceSub, Int.reduceMul, Int.reduceNeg]
      simp only [f1, hb, List.length_map, Al.newObj, m1, m2, m3, Int.one_mul, Int.natCast_one, Int.cast_ofNat_Int, AL, TY, aq, aint, astr, aWant, isPtr, abnd, ahi, alo, aload, rd, newObj, alit, aparts, astore, amapset, cellsOf, ev, avOf, av1, putF, upd, argF, TK.agg, aapp, asrc, one, aq.abuild, Nat.reduceEqDiff, Nat.reduceAdd, Nat.reduceLT, Nat.reduceLeDiff, Nat.reduceMul, Nat.reduceSub, reduceIte, reduceCtorEq, Int.reduceLE, Int.reduceToNat, Int.reduceLT, Int.reduceEq, Int.reduceAdd, Int.reduceSub, Int.reduceMul, Int.reduceNeg]
      refine awpN_intro fun bt hbt => ?_
      simp only [AL, TY, aq, aint, astr, aWant, isPtr, abnd, ahi, alo, aload, rd, newObj, alit, aparts, astore, amapset, cellsOf, ev, avOf, av1, putF, upd, argF, TK.agg, aapp, asrc, one, aq.abuild, Nat.reduceEqDiff, Nat.reduceAdd, Nat.reduceLT, Nat.reduceLeDiff, Nat.reduceMul, Nat.reduceSub, reduceIte, reduceCtorEq, Int.reduceLE, Int.reduceToNat, Int.reduceLT, Int.reduceEq, Int.reduceAdd, Int.reduceSub, Int.reduceMul, Int.reduceNeg]
      refine hK _ _ ?_; clear hK K
      have hne : b ≠ bt := fun e => by rw [e, hbt] at hb; cases hb
      have hth : OwnO 1 (.osl 1 bt fs.length) ((thereL fs.length (q k) []).map boolRow) (upd H bt (some (.rows 1 (List.replicate fs.length [.bool false])))) := by
        refine ⟨bt, by simp [thereL], ?_⟩
        rw [upd_same, thereL_nil, List.map_replicate]; rfl
      have hb2 : (upd H bt (some (.rows 1 (List.replicate fs.length [.bool false])))) b = some (.rows 3 [[.isl 1 (vs.map strRow), .isl 2 (aa.map Ar.row), .isl 5 (fs.map Fu.row)]]) := by simp only [upd, if_neg hne]; exact hb
      have hap : apart (fr 3) (.osl 1 bt fs.length) := fun b' s n s' n' e1 e2 => by
        have := hout.there s b' n e1
        cases e2
        exact this hbt
      have hout2 := hout.upd hbt (some (.rows 1 (List.replicate fs.length [.bool false])))
      generalize (upd H bt (some (.rows 1 (List.replicate fs.length [.bool false])))) = H1 at hth hb2 hout2 ⊢
      refine awp_seq_k fun K hK => ?_; refine awp_region rfl ?_; simp only [AL, TY, aq, aint, astr, aWant, isPtr, abnd, ahi, alo, aload, rd, newObj, alit, aparts, astore, amapset, cellsOf, ev, avOf, av1, putF, upd, argF, TK.agg, aapp, asrc, one, aq.abuild, Nat.reduceEqDiff, Nat.reduceAdd, Nat.reduceLT, Nat.reduceLeDiff, Nat.reduceMul, Nat.reduceSub, reduceIte, reduceCtorEq, Int.reduceLE, Int.reduceToNat, Int.reduceLT, Int.reduceEq, Int.reduceAdd, Int.reduceSub, Int.reduceMul, Int.reduceNeg]
      simp only [f1, hb2, hik, hg, AL, TY, aq, aint, astr, aWant, isPtr, abnd, ahi, alo, aload, rd, newObj, alit, aparts, astore, amapset, cellsOf, ev, avOf, av1, putF, upd, argF, TK.agg, aapp, asrc, one, aq.abuild, Nat.reduceEqDiff, Nat.reduceAdd, Nat.reduceLT, Nat.reduceLeDiff, Nat.reduceMul, Nat.reduceSub, reduceIte, reduceCtorEq, Int.reduceLE, Int.reduceToNat, Int.reduceLT, Int.reduceEq, Int.reduceAdd, Int.reduceSub, Int.reduceMul, Int.reduceNeg]
      refine awpC_pure' hus ?_; simp only [AL, TY, aq, aint, astr, aWant, isPtr, abnd, ahi, alo, aload, rd, newObj, alit, aparts, astore, amapset, cellsOf, ev, avOf, av1, putF, upd, argF, TK.agg, aapp, asrc, one, aq.abuild, Nat.reduceEqDiff, Nat.reduceAdd, Nat.reduceLT, Nat.reduceLeDiff, Nat.reduceMul, Nat.reduceSub, reduceIte, reduceCtorEq, Int.reduceLE, Int.reduceToNat, Int.reduceLT, Int.reduceEq, Int.reduceAdd, Int.reduceSub, Int.reduceMul, Int.reduceNeg]
      refine hK _ _ ?_; clear hK K
      generalize usesS g.body = us at hrk hul
      refine awp_cutK (fun fr H => fr 1 = .ptr 3 b 0 0 ∧ H b = some (.rows 3 [[.isl 1 (vs.map strRow), .isl 2 (aa.map Ar.row), .isl 5 (fs.map Fu.row)]]) ∧ OwnL 1 (fr 3) ((CF 0 (fs.take k)).map intsRow) H ∧ fr 4 = .int .i64 k ∧ fr 5 = .osl 1 bt fs.length ∧ H bt = some (.rows 1 ((thereL fs.length (q k) us).map boolRow)) ∧ apart (fr 3) (.osl 1 bt fs.length)) (fun K hK => ?_) ?_
      · refine awp_seq_k fun K hK => ?_; refine awp_region rfl ?_; simp only [AL, TY, aq, aint, astr, aWant, isPtr, abnd, ahi, alo, aload, rd, newObj, alit, aparts, astore, amapset, cellsOf, ev, avOf, av1, putF, upd, argF, TK.agg, aapp, asrc, one, aq.abuild, Nat.reduceEqDiff, Nat.reduceAdd, Nat.reduceLT, Nat.reduceLeDiff, Nat.reduceMul, Nat.reduceSub, reduceIte, reduceCtorEq, Int.reduceLE, Int.reduceToNat, Int.reduceLT, Int.reduceEq, Int.reduceAdd, Int.reduceSub, Int.reduceMul, Int.reduceNeg]
        refine hK _ _ ?_; clear hK K
        have hHt : H1 bt = some (.rows 1 ((thereL fs.length (q k) []).map boolRow)) := by
          obtain ⟨b', e1, e2⟩ := hth
          simp only [AV.osl.injEq] at e1
          rw [e1.2.1]
          exact e2
        refine awp_block ?_
        refine awp_loopK (fun mm fr H => ∃ j : Nat, mm = us.length - j ∧ j ≤ us.length ∧ fr 7 = .int .i64 j ∧ fr 1 = .ptr 3 b 0 0 ∧ H b = some (.rows 3 [[.isl 1 (vs.map strRow), .isl 2 (aa.map Ar.row), .isl 5 (fs.map Fu.row)]]) ∧ OwnL 1 (fr 3) ((CF 0 (fs.take k)).map intsRow) H ∧ fr 4 = .int .i64 k ∧ fr 5 = .osl 1 bt fs.length ∧ H bt = some (.rows 1 ((thereL fs.length (q k) (us.take j)).map boolRow)) ∧ fr 6 = .isl 3 (us.map Us.row) ∧ apart (fr 3) (.osl 1 bt fs.length)) (us.length) ⟨0, rfl, Nat.zero_le _, rfl, f1, hb2, hout2, hik, rfl, hHt, rfl, hap⟩ ?_
        rintro mm fr H ⟨j, rfl, hkj, hij, f1, hb, hout, hik, f5, hHt, f6, hap⟩ K3 hK3
        refine awp_seq ?_
        refine awp_seq_k fun K hK => ?_; refine awp_region rfl ?_; simp only [AL, TY, aq, aint, astr, aWant, isPtr, abnd, ahi, alo, aload, rd, newObj, alit, aparts, astore, amapset, cellsOf, ev, avOf, av1, putF, upd, argF, TK.agg, aapp, asrc, one, aq.abuild, Nat.reduceEqDiff, Nat.reduceAdd, Nat.reduceLT, Nat.reduceLeDiff, Nat.reduceMul, Nat.reduceSub, reduceIte, reduceCtorEq, Int.reduceLE, Int.reduceToNat, Int.reduceLT, Int.reduceEq, Int.reduceAdd, Int.reduceSub, Int.reduceMul, Int.reduceNeg]
        simp only [hij, f6,List.length_map, AL, TY, aq, aint, astr, aWant, isPtr, abnd, ahi, alo, aload, rd, newObj, alit, aparts, astore, amapset, cellsOf, ev, avOf, av1, putF, upd, argF, TK.agg, aapp, asrc, one, aq.abuild, Nat.reduceEqDiff, Nat.reduceAdd, Nat.reduceLT, Nat.reduceLeDiff, Nat.reduceMul, Nat.reduceSub, reduceIte, reduceCtorEq, Int.reduceLE, Int.reduceToNat, Int.reduceLT, Int.reduceEq, Int.reduceAdd, Int.reduceSub, Int.reduceMul, Int.reduceNeg]
        refine hK _ _ ?_; clear hK K
        refine awp_if _ rfl (fun hc => ?_) (fun hc => ?_)
        · have hltj : j < us.length := by have := of_decide_eq_true hc; omega
          clear hc
          refine awp_skip ?_; simp only [thenQ, blockQ]
          refine awp_seq ?_
          refine awp_block ?_
          have hgu := getU (List.getElem?_eq_getElem hltj)
          have htj : us.take (j + 1) = us.take j ++ [us[j]] := List.take_succ_eq_append_getElem hltj
          generalize us[j] = u at hgu htj
          have hfn := hfind k hltk u.name
          have hqk := fun n => hq k n u
          have hck := hcall k u.name
          generalize FF k u.name = r at hfn hqk hck
          refine awp_seq_k fun K hK => ?_
          refine awp_region_draw (fun x => x ≠ b) [(0, true), (1, true), (2, true), (3, true), (4, true), (5, true), (6, true), (7, true), (8, true), (9, true), (10, true), (11, true), (12, true)] draws (by kernel_rfl) rfl ?_
          simp only [emit, markOf, f1, hb, hik, hij, f6, hgu, awpL_entry, touch_ptr, touch_ipt, AL, TY, aq, aint, astr, aWant, isPtr, abnd, ahi, alo, aload, rd, newObj, alit, aparts, astore, amapset, cellsOf, ev, avOf, av1, putF, upd, argF, TK.agg, aapp, asrc, one, aq.abuild, Nat.reduceEqDiff, Nat.reduceAdd, Nat.reduceLT, Nat.reduceLeDiff, Nat.reduceMul, Nat.reduceSub, reduceIte, reduceCtorEq, Int.reduceLE, Int.reduceToNat, Int.reduceLT, Int.reduceEq, Int.reduceAdd, Int.reduceSub, Int.reduceMul, Int.reduceNeg]
          refine awpC_pure' hfn ?_
          simp only [f1, hb, hik, hij, f6, hgu, awpL_entry, touch_ptr, touch_ipt, AL, TY, aq, aint, astr, aWant, isPtr, abnd, ahi, alo, aload, rd, newObj, alit, aparts, astore, amapset, cellsOf, ev, avOf, av1, putF, upd, argF, TK.agg, aapp, asrc, one, aq.abuild, Nat.reduceEqDiff, Nat.reduceAdd, Nat.reduceLT, Nat.reduceLeDiff, Nat.reduceMul, Nat.reduceSub, reduceIte, reduceCtorEq, Int.reduceLE, Int.reduceToNat, Int.reduceLT, Int.reduceEq, Int.reduceAdd, Int.reduceSub, Int.reduceMul, Int.reduceNeg]
          refine hK _ _ ?_; clear hK K
          by_cases hcl : u.kind = 4 ∧ r.1 = 4
          · obtain ⟨k4, r4⟩ := hcl
            have e1 : decide (u.kind = 4) = true := decide_eq_true k4
            have e2 : decide (r.1 = 4) = true := decide_eq_true r4
            obtain ⟨c1, c2⟩ := hck r4
            obtain ⟨n, hn⟩ := Int.eq_ofNat_of_zero_le c1
            have hnl : n < fs.length := by omega
            have hset := thereL_set fs.length (q k) (us.take j) u n hnl (fun m hm => by
              rw [hqk, e1, e2, hn, Bool.true_and, Bool.true_and, Bool.eq_iff_iff]
              simp only [decide_eq_true_eq]; omega)
            have hi1 : (n : Int) < (fs.length : Int) := by omega
            have hgt : ((thereL fs.length (q k) (us.take j)).map boolRow)[n]? = some (boolRow (thereL fs.length (q k) (us.take j))[n]!) := by
              have hl : n < (thereL fs.length (q k) (us.take j)).length := by simp only [thereL, List.length_map, List.length_range]; exact hnl
              rw [getElem!_pos _ n hl]
              exact getRow _ (List.getElem?_eq_getElem hl)
            refine awp_seq_k fun K hK => ?_; refine awp_region rfl ?_; simp only [AL, TY, aq, aint, astr, aWant, isPtr, abnd, ahi, alo, aload, rd, newObj, alit, aparts, astore, amapset, cellsOf, ev, avOf, av1, putF, upd, argF, TK.agg, aapp, asrc, one, aq.abuild, Nat.reduceEqDiff, Nat.reduceAdd, Nat.reduceLT, Nat.reduceLeDiff, Nat.reduceMul, Nat.reduceSub, reduceIte, reduceCtorEq, Int.reduceLE, Int.reduceToNat, Int.reduceLT, Int.reduceEq, Int.reduceAdd, Int.reduceSub, Int.reduceMul, Int.reduceNeg]
            simp only [hij, f6, hgu, e1, e2, AL, TY, aq, aint, astr, aWant, isPtr, abnd, ahi, alo, aload, rd, newObj, alit, aparts, astore, amapset, cellsOf, ev, avOf, av1, putF, upd, argF, TK.agg, aapp, asrc, one, aq.abuild, Nat.reduceEqDiff, Nat.reduceAdd, Nat.reduceLT, Nat.reduceLeDiff, Nat.reduceMul, Nat.reduceSub, reduceIte, reduceCtorEq, Int.reduceLE, Int.reduceToNat, Int.reduceLT, Int.reduceEq, Int.reduceAdd, Int.reduceSub, Int.reduceMul, Int.reduceNeg]
            refine hK _ _ ?_; clear hK K
            refine awp_if true rfl (fun _ => ?_) (fun hc => by cases hc)
            refine awp_region rfl ?_
            simp only [f5, hn, hi1, hHt, hgt, boolRow, thenQ, blockQ, AL, TY, aq, aint, astr, aWant, isPtr, abnd, ahi, alo, aload, rd, newObj, alit, aparts, astore, amapset, cellsOf, ev, avOf, av1, putF, upd, argF, TK.agg, aapp, asrc, one, aq.abuild, Nat.reduceEqDiff, Nat.reduceAdd, Nat.reduceLT, Nat.reduceLeDiff, Nat.reduceMul, Nat.reduceSub, reduceIte, reduceCtorEq, Int.reduceLE, Int.reduceToNat, Int.reduceLT, Int.reduceEq, Int.reduceAdd, Int.reduceSub, Int.reduceMul, Int.reduceNeg]
            refine awp_region rfl ?_; simp only [AL, TY, aq, aint, astr, aWant, isPtr, abnd, ahi, alo, aload, rd, newObj, alit, aparts, astore, amapset, cellsOf, ev, avOf, av1, putF, upd, argF, TK.agg, aapp, asrc, one, aq.abuild, Nat.reduceEqDiff, Nat.reduceAdd, Nat.reduceLT, Nat.reduceLeDiff, Nat.reduceMul, Nat.reduceSub, reduceIte, reduceCtorEq, Int.reduceLE, Int.reduceToNat, Int.reduceLT, Int.reduceEq, Int.reduceAdd, Int.reduceSub, Int.reduceMul, Int.reduceNeg]
            simp only [hij, thenQ, blockQ, AL, TY, aq, aint, astr, aWant, isPtr, abnd, ahi, alo, aload, rd, newObj, alit, aparts, astore, amapset, cellsOf, ev, avOf, av1, putF, upd, argF, TK.agg, aapp, asrc, one, aq.abuild, Nat.reduceEqDiff, Nat.reduceAdd, Nat.reduceLT, Nat.reduceLeDiff, Nat.reduceMul, Nat.reduceSub, reduceIte, reduceCtorEq, Int.reduceLE, Int.reduceToNat, Int.reduceLT, Int.reduceEq, Int.reduceAdd, Int.reduceSub, Int.reduceMul, Int.reduceNeg]
            rw [IntWalk.i64_in _ (by omega)]
            refine hK3 (us.length - (j + 1)) _ _ (by omega) ⟨j + 1, rfl, by omega, rfl, f1, by simp only [upd, if_neg hne]; exact hb, ?_, hik, f5, ?_, f6, hap⟩
            · exact hout.keep (w := .osl 1 bt fs.length) (sz' := 1) (r2 := List.replicate fs.length []) hap.symm (fun b' o h1 h2 => by
                have : b' ≠ bt := fun e => h2 (by rw [e, List.length_replicate])
                simp only [upd, if_neg this]; exact h1)
            · rw [htj, hset, upd_same, List.map_set]; rfl
          · have hnone := thereL_none fs.length (q k) (us.take j) u (fun m hm => by
              rw [hqk]
              by_cases k4 : u.kind = 4
              · have r4 : ¬ r.1 = 4 := fun h => hcl ⟨k4, h⟩
                simp [r4]
              · simp [k4])
            by_cases k4 : u.kind = 4
            · have r4 : ¬ r.1 = 4 := fun h => hcl ⟨k4, h⟩
              have e1 : decide (u.kind = 4) = true := decide_eq_true k4
              have e2 : decide (r.1 = 4) = false := decide_eq_false r4
              refine awp_seq_k fun K hK => ?_; refine awp_region rfl ?_; simp only [AL, TY, aq, aint, astr, aWant, isPtr, abnd, ahi, alo, aload, rd, newObj, alit, aparts, astore, amapset, cellsOf, ev, avOf, av1, putF, upd, argF, TK.agg, aapp, asrc, one, aq.abuild, Nat.reduceEqDiff, Nat.reduceAdd, Nat.reduceLT, Nat.reduceLeDiff, Nat.reduceMul, Nat.reduceSub, reduceIte, reduceCtorEq, Int.reduceLE, Int.reduceToNat, Int.reduceLT, Int.reduceEq, Int.reduceAdd, Int.reduceSub, Int.reduceMul, Int.reduceNeg]
              simp only [hij, f6, hgu, e1, e2, AL, TY, aq, aint, astr, aWant, isPtr, abnd, ahi, alo, aload, rd, newObj, alit, aparts, astore, amapset, cellsOf, ev, avOf, av1, putF, upd, argF, TK.agg, aapp, asrc, one, aq.abuild, Nat.reduceEqDiff, Nat.reduceAdd, Nat.reduceLT, Nat.reduceLeDiff, Nat.reduceMul, Nat.reduceSub, reduceIte, reduceCtorEq, Int.reduceLE, Int.reduceToNat, Int.reduceLT, Int.reduceEq, Int.reduceAdd, Int.reduceSub, Int.reduceMul, Int.reduceNeg]
              refine hK _ _ ?_; clear hK K
              refine awp_if false rfl (fun hc => by cases hc) (fun _ => ?_)
              refine awp_skip ?_; simp only [thenQ, blockQ]
              refine awp_region rfl ?_; simp only [AL, TY, aq, aint, astr, aWant, isPtr, abnd, ahi, alo, aload, rd, newObj, alit, aparts, astore, amapset, cellsOf, ev, avOf, av1, putF, upd, argF, TK.agg, aapp, asrc, one, aq.abuild, Nat.reduceEqDiff, Nat.reduceAdd, Nat.reduceLT, Nat.reduceLeDiff, Nat.reduceMul, Nat.reduceSub, reduceIte, reduceCtorEq, Int.reduceLE, Int.reduceToNat, Int.reduceLT, Int.reduceEq, Int.reduceAdd, Int.reduceSub, Int.reduceMul, Int.reduceNeg]
              simp only [hij, thenQ, blockQ, AL, TY, aq, aint, astr, aWant, isPtr, abnd, ahi, alo, aload, rd, newObj, alit, aparts, astore, amapset, cellsOf, ev, avOf, av1, putF, upd, argF, TK.agg, aapp, asrc, one, aq.abuild, Nat.reduceEqDiff, Nat.reduceAdd, Nat.reduceLT, Nat.reduceLeDiff, Nat.reduceMul, Nat.reduceSub, reduceIte, reduceCtorEq, Int.reduceLE, Int.reduceToNat, Int.reduceLT, Int.reduceEq, Int.reduceAdd, Int.reduceSub, Int.reduceMul, Int.reduceNeg]
              rw [IntWalk.i64_in _ (by omega)]
              refine hK3 (us.length - (j + 1)) _ _ (by omega) ⟨j + 1, rfl, by omega, rfl, f1, hb, hout, hik, f5, by rw [htj, hnone]; exact hHt, f6, hap⟩
            · have e1 : decide (u.kind = 4) = false := decide_eq_false k4
              refine awp_seq_k fun K hK => ?_; refine awp_region rfl ?_; simp only [AL, TY, aq, aint, astr, aWant, isPtr, abnd, ahi, alo, aload, rd, newObj, alit, aparts, astore, amapset, cellsOf, ev, avOf, av1, putF, upd, argF, TK.agg, aapp, asrc, one, aq.abuild, Nat.reduceEqDiff, Nat.reduceAdd, Nat.reduceLT, Nat.reduceLeDiff, Nat.reduceMul, Nat.reduceSub, reduceIte, reduceCtorEq, Int.reduceLE, Int.reduceToNat, Int.reduceLT, Int.reduceEq, Int.reduceAdd, Int.reduceSub, Int.reduceMul, Int.reduceNeg]
              simp only [hij, f6, hgu, e1, AL, TY, aq, aint, astr, aWant, isPtr, abnd, ahi, alo, aload, rd, newObj, alit, aparts, astore, amapset, cellsOf, ev, avOf, av1, putF, upd, argF, TK.agg, aapp, asrc, one, aq.abuild, Nat.reduceEqDiff, Nat.reduceAdd, Nat.reduceLT, Nat.reduceLeDiff, Nat.reduceMul, Nat.reduceSub, reduceIte, reduceCtorEq, Int.reduceLE, Int.reduceToNat, Int.reduceLT, Int.reduceEq, Int.reduceAdd, Int.reduceSub, Int.reduceMul, Int.reduceNeg]
              refine hK _ _ ?_; clear hK K
              refine awp_if false rfl (fun hc => by cases hc) (fun _ => ?_)
              refine awp_skip ?_; simp only [thenQ, blockQ]
              refine awp_region rfl ?_; simp only [AL, TY, aq, aint, astr, aWant, isPtr, abnd, ahi, alo, aload, rd, newObj, alit, aparts, astore, amapset, cellsOf, ev, avOf, av1, putF, upd, argF, TK.agg, aapp, asrc, one, aq.abuild, Nat.reduceEqDiff, Nat.reduceAdd, Nat.reduceLT, Nat.reduceLeDiff, Nat.reduceMul, Nat.reduceSub, reduceIte, reduceCtorEq, Int.reduceLE, Int.reduceToNat, Int.reduceLT, Int.reduceEq, Int.reduceAdd, Int.reduceSub, Int.reduceMul, Int.reduceNeg]
              simp only [hij, thenQ, blockQ, AL, TY, aq, aint, astr, aWant, isPtr, abnd, ahi, alo, aload, rd, newObj, alit, aparts, astore, amapset, cellsOf, ev, avOf, av1, putF, upd, argF, TK.agg, aapp, asrc, one, aq.abuild, Nat.reduceEqDiff, Nat.reduceAdd, Nat.reduceLT, Nat.reduceLeDiff, Nat.reduceMul, Nat.reduceSub, reduceIte, reduceCtorEq, Int.reduceLE, Int.reduceToNat, Int.reduceLT, Int.reduceEq, Int.reduceAdd, Int.reduceSub, Int.reduceMul, Int.reduceNeg]
              rw [IntWalk.i64_in _ (by omega)]
              refine hK3 (us.length - (j + 1)) _ _ (by omega) ⟨j + 1, rfl, by omega, rfl, f1, hb, hout, hik, f5, by rw [htj, hnone]; exact hHt, f6, hap⟩
        · refine awp_exit ?_; simp only [thenQ, blockQ, reduceIte, Nat.reduceEqDiff]
          have hknj : j = us.length := by have := of_decide_eq_false hc; omega
          clear hc
          subst hknj
          rw [List.take_length] at hHt
          exact hK _ _ ⟨f1, hb, hout, hik, f5, hHt, hap⟩
      rintro fr H ⟨f1, hb, hout, hik, f5, hHt, hap⟩
      refine awp_seq_k fun K hK => ?_; refine awp_region rfl ?_; simp only [AL, TY, aq, aint, astr, aWant, isPtr, abnd, ahi, alo, aload, rd, newObj, alit, aparts, astore, amapset, cellsOf, ev, avOf, av1, putF, upd, argF, TK.agg, aapp, asrc, one, aq.abuild, Nat.reduceEqDiff, Nat.reduceAdd, Nat.reduceLT, Nat.reduceLeDiff, Nat.reduceMul, Nat.reduceSub, reduceIte, reduceCtorEq, Int.reduceLE, Int.reduceToNat, Int.reduceLT, Int.reduceEq, Int.reduceAdd, Int.reduceSub, Int.reduceMul, Int.reduceNeg]
      refine hK _ _ ?_; clear hK K
      have hgetT : ∀ j, j < fs.length → ((thereL fs.length (q k) us).map boolRow)[j]? = some [.bool (us.any (q k j))] := fun j hj => by
        have hl : j < (thereL fs.length (q k) us).length := by simp only [thereL, List.length_map, List.length_range]; exact hj
        rw [getRow _ (List.getElem?_eq_getElem hl)]
        simp [boolRow, thereL]
      refine awp_cutK (fun fr H => fr 1 = .ptr 3 b 0 0 ∧ H b = some (.rows 3 [[.isl 1 (vs.map strRow), .isl 2 (aa.map Ar.row), .isl 5 (fs.map Fu.row)]]) ∧ OwnL 1 (fr 3) ((CF 0 (fs.take k)).map intsRow) H ∧ fr 4 = .int .i64 k ∧ OwnL 1 (fr 10) ((CR k g).map intRow) H ∧ apart (fr 10) (fr 3) ∧ (CR k g).length ≤ fs.length) (fun K hK => ?_) ?_
      · refine awp_seq_k fun K hK => ?_; refine awp_region rfl ?_; simp only [AL, TY, aq, aint, astr, aWant, isPtr, abnd, ahi, alo, aload, rd, newObj, alit, aparts, astore, amapset, cellsOf, ev, avOf, av1, putF, upd, argF, TK.agg, aapp, asrc, one, aq.abuild, Nat.reduceEqDiff, Nat.reduceAdd, Nat.reduceLT, Nat.reduceLeDiff, Nat.reduceMul, Nat.reduceSub, reduceIte, reduceCtorEq, Int.reduceLE, Int.reduceToNat, Int.reduceLT, Int.reduceEq, Int.reduceAdd, Int.reduceSub, Int.reduceMul, Int.reduceNeg]
        refine hK _ _ ?_; clear hK K
        refine awp_block ?_
        refine awp_loopK (fun mm fr H => ∃ j : Nat, mm = fs.length - j ∧ j ≤ fs.length ∧ fr 11 = .int .i64 j ∧ fr 1 = .ptr 3 b 0 0 ∧ H b = some (.rows 3 [[.isl 1 (vs.map strRow), .isl 2 (aa.map Ar.row), .isl 5 (fs.map Fu.row)]]) ∧ OwnL 1 (fr 3) ((CF 0 (fs.take k)).map intsRow) H ∧ fr 4 = .int .i64 k ∧ fr 5 = .osl 1 bt fs.length ∧ H bt = some (.rows 1 ((thereL fs.length (q k) us).map boolRow)) ∧ OwnL 1 (fr 10) ((((List.range j).filter fun n => us.any (q k n)).map fun (n : Nat) => (n : Int)).map intRow) H ∧ apart (fr 10) (fr 3) ∧ apart (fr 10) (.osl 1 bt fs.length)) (fs.length) ⟨0, rfl, Nat.zero_le _, rfl, f1, hb, hout, hik, f5, hHt, .inl ⟨rfl, by simp⟩, apart.nsl _, apart.nsl _⟩ ?_
        rintro mm fr H ⟨j, rfl, hkj, hij, f1, hb, hout, hik, f5, hHt, hrw, ha3, hat⟩ K3 hK3
        refine awp_seq ?_
        refine awp_seq_k fun K hK => ?_; refine awp_region rfl ?_; simp only [AL, TY, aq, aint, astr, aWant, isPtr, abnd, ahi, alo, aload, rd, newObj, alit, aparts, astore, amapset, cellsOf, ev, avOf, av1, putF, upd, argF, TK.agg, aapp, asrc, one, aq.abuild, Nat.reduceEqDiff, Nat.reduceAdd, Nat.reduceLT, Nat.reduceLeDiff, Nat.reduceMul, Nat.reduceSub, reduceIte, reduceCtorEq, Int.reduceLE, Int.reduceToNat, Int.reduceLT, Int.reduceEq, Int.reduceAdd, Int.reduceSub, Int.reduceMul, Int.reduceNeg]
        simp only [hij, f5, hHt,List.length_map, AL, TY, aq, aint, astr, aWant, isPtr, abnd, ahi, alo, aload, rd, newObj, alit, aparts, astore, amapset, cellsOf, ev, avOf, av1, putF, upd, argF, TK.agg, aapp, asrc, one, aq.abuild, Nat.reduceEqDiff, Nat.reduceAdd, Nat.reduceLT, Nat.reduceLeDiff, Nat.reduceMul, Nat.reduceSub, reduceIte, reduceCtorEq, Int.reduceLE, Int.reduceToNat, Int.reduceLT, Int.reduceEq, Int.reduceAdd, Int.reduceSub, Int.reduceMul, Int.reduceNeg]
        refine hK _ _ ?_; clear hK K
        refine awp_if _ rfl (fun hc => ?_) (fun hc => ?_)
        · have hltj : j < fs.length := by have := of_decide_eq_true hc; omega
          clear hc
          refine awp_skip ?_; simp only [thenQ, blockQ]
          refine awp_seq ?_
          refine awp_block ?_
          have hgj := hgetT j hltj
          have hi1 : (j : Int) < (fs.length : Int) := by omega
          have hrl : ((List.range j).filter fun n => us.any (q k n)).length ≤ j := by
            have := List.length_filter_le (fun n => us.any (q k n)) (List.range j)
            rwa [List.length_range] at this
          refine awp_seq_k fun K hK => ?_; refine awp_region rfl ?_; simp only [AL, TY, aq, aint, astr, aWant, isPtr, abnd, ahi, alo, aload, rd, newObj, alit, aparts, astore, amapset, cellsOf, ev, avOf, av1, putF, upd, argF, TK.agg, aapp, asrc, one, aq.abuild, Nat.reduceEqDiff, Nat.reduceAdd, Nat.reduceLT, Nat.reduceLeDiff, Nat.reduceMul, Nat.reduceSub, reduceIte, reduceCtorEq, Int.reduceLE, Int.reduceToNat, Int.reduceLT, Int.reduceEq, Int.reduceAdd, Int.reduceSub, Int.reduceMul, Int.reduceNeg]
          simp only [f5, hij, hHt, hgj, hi1, AL, TY, aq, aint, astr, aWant, isPtr, abnd, ahi, alo, aload, rd, newObj, alit, aparts, astore, amapset, cellsOf, ev, avOf, av1, putF, upd, argF, TK.agg, aapp, asrc, one, aq.abuild, Nat.reduceEqDiff, Nat.reduceAdd, Nat.reduceLT, Nat.reduceLeDiff, Nat.reduceMul, Nat.reduceSub, reduceIte, reduceCtorEq, Int.reduceLE, Int.reduceToNat, Int.reduceLT, Int.reduceEq, Int.reduceAdd, Int.reduceSub, Int.reduceMul, Int.reduceNeg]
          refine hK _ _ ?_; clear hK K
          cases hany : us.any (q k j) with
          | false =>
            refine awp_if false (by simp [upd, ev, hany]) (fun hc => by cases hc) (fun _ => ?_)
            refine awp_skip ?_; simp only [thenQ, blockQ]
            refine awp_region rfl ?_; simp only [AL, TY, aq, aint, astr, aWant, isPtr, abnd, ahi, alo, aload, rd, newObj, alit, aparts, astore, amapset, cellsOf, ev, avOf, av1, putF, upd, argF, TK.agg, aapp, asrc, one, aq.abuild, Nat.reduceEqDiff, Nat.reduceAdd, Nat.reduceLT, Nat.reduceLeDiff, Nat.reduceMul, Nat.reduceSub, reduceIte, reduceCtorEq, Int.reduceLE, Int.reduceToNat, Int.reduceLT, Int.reduceEq, Int.reduceAdd, Int.reduceSub, Int.reduceMul, Int.reduceNeg]
            simp only [hij, thenQ, blockQ, AL, TY, aq, aint, astr, aWant, isPtr, abnd, ahi, alo, aload, rd, newObj, alit, aparts, astore, amapset, cellsOf, ev, avOf, av1, putF, upd, argF, TK.agg, aapp, asrc, one, aq.abuild, Nat.reduceEqDiff, Nat.reduceAdd, Nat.reduceLT, Nat.reduceLeDiff, Nat.reduceMul, Nat.reduceSub, reduceIte, reduceCtorEq, Int.reduceLE, Int.reduceToNat, Int.reduceLT, Int.reduceEq, Int.reduceAdd, Int.reduceSub, Int.reduceMul, Int.reduceNeg]
            rw [IntWalk.i64_in _ (by omega)]
            refine hK3 (fs.length - (j + 1)) _ _ (by omega) ⟨j + 1, rfl, by omega, rfl, f1, hb, hout, hik, f5, hHt, by rw [List.range_succ, List.filter_append, List.filter_cons, hany]; simpa [upd] using hrw, ha3, hat⟩
          | true =>
            refine awp_if true (by simp [upd, ev, hany]) (fun _ => ?_) (fun hc => by cases hc)
            refine awp_region rfl ?_
            simp only [hij, AL, TY, aq, aint, astr, aWant, isPtr, abnd, ahi, alo, aload, rd, newObj, alit, aparts, astore, amapset, cellsOf, ev, avOf, av1, putF, upd, argF, TK.agg, aapp, asrc, one, aq.abuild, Nat.reduceEqDiff, Nat.reduceAdd, Nat.reduceLT, Nat.reduceLeDiff, Nat.reduceMul, Nat.reduceSub, reduceIte, reduceCtorEq, Int.reduceLE, Int.reduceToNat, Int.reduceLT, Int.reduceEq, Int.reduceAdd, Int.reduceSub, Int.reduceMul, Int.reduceNeg]
            refine awpB_sealed ?_
            simp only [AL, TY, aq, aint, astr, aWant, isPtr, abnd, ahi, alo, aload, rd, newObj, alit, aparts, astore, amapset, cellsOf, ev, avOf, av1, putF, upd, argF, TK.agg, aapp, asrc, one, aq.abuild, Nat.reduceEqDiff, Nat.reduceAdd, Nat.reduceLT, Nat.reduceLeDiff, Nat.reduceMul, Nat.reduceSub, reduceIte, reduceCtorEq, Int.reduceLE, Int.reduceToNat, Int.reduceLT, Int.reduceEq, Int.reduceAdd, Int.reduceSub, Int.reduceMul, Int.reduceNeg]
            refine awpA_grow hrw (by simp only [List.length_map, List.length_cons, List.length_nil]; omega) (fun _ => trivial) fun v' H' hv' hk' ha' => ?_
            simp only [thenQ, blockQ, AL, TY, aq, aint, astr, aWant, isPtr, abnd, ahi, alo, aload, rd, newObj, alit, aparts, astore, amapset, cellsOf, ev, avOf, av1, putF, upd, argF, TK.agg, aapp, asrc, one, aq.abuild, Nat.reduceEqDiff, Nat.reduceAdd, Nat.reduceLT, Nat.reduceLeDiff, Nat.reduceMul, Nat.reduceSub, reduceIte, reduceCtorEq, Int.reduceLE, Int.reduceToNat, Int.reduceLT, Int.reduceEq, Int.reduceAdd, Int.reduceSub, Int.reduceMul, Int.reduceNeg]
            have hHt' := hk' bt _ hHt (fun e => hat bt _ _ 1 fs.length e rfl)
            have hb' := hk' b _ hb (fun e => by
              rcases hrw with ⟨e1, _⟩ | ⟨b', e1, e2⟩
              · rw [e1] at e; cases e
              · rw [e1] at e; cases e; rw [hb] at e2; cases e2)
            have hout' := hout.keep ha3 hk'
            refine awp_region rfl ?_; simp only [AL, TY, aq, aint, astr, aWant, isPtr, abnd, ahi, alo, aload, rd, newObj, alit, aparts, astore, amapset, cellsOf, ev, avOf, av1, putF, upd, argF, TK.agg, aapp, asrc, one, aq.abuild, Nat.reduceEqDiff, Nat.reduceAdd, Nat.reduceLT, Nat.reduceLeDiff, Nat.reduceMul, Nat.reduceSub, reduceIte, reduceCtorEq, Int.reduceLE, Int.reduceToNat, Int.reduceLT, Int.reduceEq, Int.reduceAdd, Int.reduceSub, Int.reduceMul, Int.reduceNeg]
            simp only [hij, thenQ, blockQ, AL, TY, aq, aint, astr, aWant, isPtr, abnd, ahi, alo, aload, rd, newObj, alit, aparts, astore, amapset, cellsOf, ev, avOf, av1, putF, upd, argF, TK.agg, aapp, asrc, one, aq.abuild, Nat.reduceEqDiff, Nat.reduceAdd, Nat.reduceLT, Nat.reduceLeDiff, Nat.reduceMul, Nat.reduceSub, reduceIte, reduceCtorEq, Int.reduceLE, Int.reduceToNat, Int.reduceLT, Int.reduceEq, Int.reduceAdd, Int.reduceSub, Int.reduceMul, Int.reduceNeg]
            rw [IntWalk.i64_in _ (by omega)]
            refine hK3 (fs.length - (j + 1)) _ _ (by omega) ⟨j + 1, rfl, by omega, rfl, f1, hb', hout', hik, f5, hHt', by rw [List.range_succ, List.filter_append, List.filter_cons, hany, List.map_append, List.map_append]; exact hv', ha' _ ha3 (fun s b n e => hout.there s b n e), ha' _ hat (fun s b n e => by cases e; rw [hHt]; simp)⟩
        · refine awp_exit ?_; simp only [thenQ, blockQ, reduceIte, Nat.reduceEqDiff]
          have hknj : j = fs.length := by have := of_decide_eq_false hc; omega
          clear hc
          subst hknj
          rw [← hrk] at hrw
          have hrl : (CR k g).length ≤ fs.length := by
            rw [hrk, List.length_map]
            have := List.length_filter_le (fun n => us.any (q k n)) (List.range fs.length)
            rwa [List.length_range] at this
          exact hK _ _ ⟨f1, hb, hout, hik, hrw, ha3, hrl⟩
      rintro fr H ⟨f1, hb, hout, hik, hrw, ha3, hrl⟩
      refine awp_seal2 (i := 10) hrw fun fr' H' g10 gfr gH => ?_
      have g1 := gfr 1 (by decide) (by rw [f1]; exact apart_ptr _ _ _ _ _)
      have g4 := gfr 4 (by decide) (by rw [hik]; exact apart_int _ _ _)
      have g3 := gfr 3 (by decide) ha3
      rw [f1] at g1
      rw [hik] at g4
      have hb' := gH b _ hb (fun e => by
        rcases hrw with ⟨e1, _⟩ | ⟨b', e1, e2⟩
        · rw [e1] at e; cases e
        · rw [e1] at e; cases e; rw [hb] at e2; cases e2)
      have hout' := hout.keep ha3 gH
      rw [← g3] at hout'
      refine awp_region rfl ?_
      simp only [g10, AL, TY, aq, aint, astr, aWant, isPtr, abnd, ahi, alo, aload, rd, newObj, alit, aparts, astore, amapset, cellsOf, ev, avOf, av1, putF, upd, argF, TK.agg, aapp, asrc, one, aq.abuild, Nat.reduceEqDiff, Nat.reduceAdd, Nat.reduceLT, Nat.reduceLeDiff, Nat.reduceMul, Nat.reduceSub, reduceIte, reduceCtorEq, Int.reduceLE, Int.reduceToNat, Int.reduceLT, Int.reduceEq, Int.reduceAdd, Int.reduceSub, Int.reduceMul, Int.reduceNeg]
      refine awpB_sealed ?_
      simp only [AL, TY, aq, aint, astr, aWant, isPtr, abnd, ahi, alo, aload, rd, newObj, alit, aparts, astore, amapset, cellsOf, ev, avOf, av1, putF, upd, argF, TK.agg, aapp, asrc, one, aq.abuild, Nat.reduceEqDiff, Nat.reduceAdd, Nat.reduceLT, Nat.reduceLeDiff, Nat.reduceMul, Nat.reduceSub, reduceIte, reduceCtorEq, Int.reduceLE, Int.reduceToNat, Int.reduceLT, Int.reduceEq, Int.reduceAdd, Int.reduceSub, Int.reduceMul, Int.reduceNeg]
      refine awpA_grow hout' (by simp only [List.length_map, List.length_cons, List.length_nil, hfl, List.length_take]; omega) (fun _ => trivial) fun v' H2 hv' hk' _ => ?_
      simp only [thenQ, blockQ, AL, TY, aq, aint, astr, aWant, isPtr, abnd, ahi, alo, aload, rd, newObj, alit, aparts, astore, amapset, cellsOf, ev, avOf, av1, putF, upd, argF, TK.agg, aapp, asrc, one, aq.abuild, Nat.reduceEqDiff, Nat.reduceAdd, Nat.reduceLT, Nat.reduceLeDiff, Nat.reduceMul, Nat.reduceSub, reduceIte, reduceCtorEq, Int.reduceLE, Int.reduceToNat, Int.reduceLT, Int.reduceEq, Int.reduceAdd, Int.reduceSub, Int.reduceMul, Int.reduceNeg]
      have hb2 := hk' b _ hb' (fun e => by
        rcases hout' with ⟨e1, _⟩ | ⟨b', e1, e2⟩
        · rw [e1] at e; cases e
        · rw [e1] at e; cases e; rw [hb'] at e2; cases e2)
      have hik := g4
      refine awp_region rfl ?_; simp only [AL, TY, aq, aint, astr, aWant, isPtr, abnd, ahi, alo, aload, rd, newObj, alit, aparts, astore, amapset, cellsOf, ev, avOf, av1, putF, upd, argF, TK.agg, aapp, asrc, one, aq.abuild, Nat.reduceEqDiff, Nat.reduceAdd, Nat.reduceLT, Nat.reduceLeDiff, Nat.reduceMul, Nat.reduceSub, reduceIte, reduceCtorEq, Int.reduceLE, Int.reduceToNat, Int.reduceLT, Int.reduceEq, Int.reduceAdd, Int.reduceSub, Int.reduceMul, Int.reduceNeg]
      simp only [hik, thenQ, blockQ, AL, TY, aq, aint, astr, aWant, isPtr, abnd, ahi, alo, aload, rd, newObj, alit, aparts, astore, amapset, cellsOf, ev, avOf, av1, putF, upd, argF, TK.agg, aapp, asrc, one, aq.abuild, Nat.reduceEqDiff, Nat.reduceAdd, Nat.reduceLT, Nat.reduceLeDiff, Nat.reduceMul, Nat.reduceSub, reduceIte, reduceCtorEq, Int.reduceLE, Int.reduceToNat, Int.reduceLT, Int.reduceEq, Int.reduceAdd, Int.reduceSub, Int.reduceMul, Int.reduceNeg]
      rw [IntWalk.i64_in _ (by omega)]
      refine hK2 (fs.length - (k + 1)) _ _ (by omega) ⟨k + 1, rfl, by omega, rfl, g1, hb2, by rw [htk, List.map_append]; exact hv'⟩
    · refine awp_exit ?_; simp only [thenQ, blockQ, reduceIte, Nat.reduceEqDiff]
      have hknk : k = fs.length := by have := of_decide_eq_false hc; omega
      clear hc
      subst hknk
      rw [List.take_length, ← hC] at hout
      exact hK _ _ hout
  rintro fr H hown
  refine awp_seq_k fun K hK => ?_; refine awp_region rfl ?_; simp only [AL, TY, aq, aint, astr, aWant, isPtr, abnd, ahi, alo, aload, rd, newObj, alit, aparts, astore, amapset, cellsOf, ev, avOf, av1, putF, upd, argF, TK.agg, aapp, asrc, one, aq.abuild, Nat.reduceEqDiff, Nat.reduceAdd, Nat.reduceLT, Nat.reduceLeDiff, Nat.reduceMul, Nat.reduceSub, reduceIte, reduceCtorEq, Int.reduceLE, Int.reduceToNat, Int.reduceLT, Int.reduceEq, Int.reduceAdd, Int.reduceSub, Int.reduceMul, Int.reduceNeg]
  refine hK _ _ ?_; clear hK K
  refine awp_ret ?_
  simp only [thenQ, blockQ, bodyQ, aresult, ares, argF, AL, TY, aq, aint, astr, aWant, isPtr, abnd, ahi, alo, aload, rd, newObj, alit, aparts, astore, amapset, cellsOf, ev, avOf, av1, putF, upd, argF, TK.agg, aapp, asrc, one, aq.abuild, Nat.reduceEqDiff, Nat.reduceAdd, Nat.reduceLT, Nat.reduceLeDiff, Nat.reduceMul, Nat.reduceSub, reduceIte, reduceCtorEq, Int.reduceLE, Int.reduceToNat, Int.reduceLT, Int.reduceEq, Int.reduceAdd, Int.reduceSub, Int.reduceMul, Int.reduceNeg]
  exact hown.gives1 rfl
end Go.Proofs.Ytnbokmbjiioooaa
