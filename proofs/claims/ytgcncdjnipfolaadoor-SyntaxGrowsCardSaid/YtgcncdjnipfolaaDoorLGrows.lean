/- Chapter 14: a statement more at a program's end, in plain Lean. SyntaxGrows: the law's contract. -/
import Derived.Test.YtgcncdjnipfolaaDoorLExpr
import Derived.Test.YtgcncdjnipfolaaDoorGSf
set_option linter.unusedSimpArgs false
set_option linter.unusedVariables false
set_option maxRecDepth 10000
namespace Go.Al
/-- a program with a statement more at function i's end -/
def addS (p : Pg) (i : Nat) (g : Fu) (x : Sm) : Pg := ⟨p.vars, p.arrs, p.funs.set i ⟨g.name, g.params, g.locs, g.word, g.body ++ [x]⟩⟩
theorem SubR.refl : ∀ l : List AV, SubR l l
  | [] => .nil
  | x :: l => .cons (Sub.refl x) (SubR.refl l)
theorem SubRs.refl : ∀ l : List (List AV), SubRs l l
  | [] => .nil
  | x :: l => .cons (SubR.refl x) (SubRs.refl l)
theorem SubRs.snoc {x y : List AV} (h : SubR x y) : ∀ l : List (List AV), SubRs (l ++ [x]) (l ++ [y])
  | [] => .cons h .nil
  | z :: l => .cons (SubR.refl z) (SubRs.snoc h l)
theorem SubRs.set {x y : List AV} (h : SubR x y) : ∀ (l : List (List AV)) (i : Nat), SubRs (l.set i x) (l.set i y)
  | [], _ => .nil
  | z :: l, 0 => .cons h (SubRs.refl l)
  | z :: l, i + 1 => .cons (SubR.refl z) (SubRs.set h l i)
theorem addS_av (p : Pg) (i : Nat) (g : Fu) (x : Sm) : (addS p i g x).av = .agg [.isl 1 (p.vars.map strRow), .isl 2 (p.arrs.map Ar.row), .isl 5 ((p.funs.map Fu.row).set i [.str g.name, .isl 1 (g.params.map strRow), .isl 1 (g.locs.map strRow), .bool g.word, .isl 5 (g.body.map Sm.row ++ [x.row])])] := by
  simp only [Pg.av, Pg.row, addS, List.map_set, Fu.row, List.map_append]
  rfl
theorem last_split {α : Type} {l : List α} {g : α} (h : l[l.length - 1]? = some g) : ∃ l', l = l' ++ [g] := by
  obtain ⟨hi, e⟩ := List.getElem?_eq_some_iff.1 h
  have hne : l ≠ [] := List.ne_nil_of_length_pos (by omega)
  refine ⟨l.dropLast, ?_⟩
  have : l.getLast hne = g := by rw [List.getLast_eq_getElem]; exact e
  rw [← this]; exact (List.dropLast_concat_getLast hne).symm
theorem szS_app (x : Sm) : ∀ l : List Sm, szS (l ++ [x]) = szS l + x.sz
  | [] => by simp [szS]
  | y :: l => by simp only [List.cons_append, szS, szS_app x l]; omega
theorem sumF_app : ∀ l m : List Fu, sumF (l ++ m) = sumF l + sumF m
  | [], m => by simp [sumF]
  | y :: l, m => by simp only [List.cons_append, sumF, sumF_app l m]; omega
theorem prFs_app : ∀ l m : List Fu, prFs (l ++ m) = prFs l ++ prFs m
  | [], m => by simp [prFs]
  | y :: l, m => by simp only [List.cons_append, prFs, prFs_app l m, List.append_assoc]
def putX (e : Ex) : Sm := .mk 3 [] [e] [] []
theorem grow_size {p : Pg} {g : Fu} (hg : p.funs[p.funs.length - 1]? = some g) (e : Ex) : sizP (addS p (p.funs.length - 1) g (putX e)) = sizP p + 1 + szE [e] := by
  obtain ⟨l, hl⟩ := last_split hg
  obtain ⟨vars, arrs, funs⟩ := p
  simp only at hl hg
  subst hl
  have hset : (l ++ [g]).set ((l ++ [g]).length - 1) ⟨g.name, g.params, g.locs, g.word, g.body ++ [putX e]⟩ = l ++ [⟨g.name, g.params, g.locs, g.word, g.body ++ [putX e]⟩] := by
    rw [List.length_append, List.length_singleton, Nat.add_sub_cancel, List.set_append_right _ _ (Nat.le_refl _)]
    simp
  have hx : (putX e).sz = 1 + szE [e] := by rw [Sm.sz_eq]; simp [putX, Sm.es, Sm.thn, Sm.els, szS]
  have he : addS ⟨vars, arrs, l ++ [g]⟩ ((l ++ [g]).length - 1) g (putX e) = ⟨vars, arrs, l ++ [⟨g.name, g.params, g.locs, g.word, g.body ++ [putX e]⟩]⟩ := by simp only [addS, hset]
  rw [he]
  simp only [sizP, sumF_app, sumF, cntF, szS_app, hx, List.length_append, List.length_cons, List.length_nil]
  omega
theorem grow_pr {p : Pg} {g : Fu} (hg : p.funs[p.funs.length - 1]? = some g) (e : Ex) : ∃ A : Str, prP p = A ++ [125, 10] ∧ prP (addS p (p.funs.length - 1) g (putX e)) = A ++ [32, 32, 112, 117, 116, 40] ++ prE e ++ [41, 59, 10, 125, 10] ∧ 0 < A.length := by
  obtain ⟨l, hl⟩ := last_split hg
  obtain ⟨vars, arrs, funs⟩ := p
  simp only at hl hg
  subst hl
  have hset : (l ++ [g]).set ((l ++ [g]).length - 1) ⟨g.name, g.params, g.locs, g.word, g.body ++ [putX e]⟩ = l ++ [⟨g.name, g.params, g.locs, g.word, g.body ++ [putX e]⟩] := by
    rw [List.length_append, List.length_singleton, Nat.add_sub_cancel, List.set_append_right _ _ (Nat.le_refl _)]
    simp
  refine ⟨(if vars.length = 0 then [] else [118, 97, 114, 32] ++ (comma vars ++ [59, 10])) ++ (prAs arrs ++ (prFs l ++ ([102, 117, 110, 99, 32] ++ (g.name ++ ([40] ++ (comma g.params ++ ([41] ++ ((if g.word then [32, 119, 111, 114, 100] else []) ++ ([32, 123, 10] ++ ((if g.locs.length = 0 then [] else [32, 32, 118, 97, 114, 32] ++ (comma g.locs ++ [59, 10])) ++ prB 1 g.body))))))))))  , ?_, ?_, ?_⟩
  · simp only [prP, prFs_app, prFs, prF, List.append_assoc, List.append_nil]
  · simp only [addS, hset, prP, prFs_app, prFs, prF, prB_snoc, List.append_assoc, List.append_nil]
    congr 1; congr 1; congr 1; congr 1; congr 1; congr 1; congr 1; congr 1; congr 1; congr 1; congr 1; congr 1
    simp [putX, prM, prL_one, ind]
  · simp only [List.length_append, List.length_cons, List.length_nil]; omega
end Go.Al
namespace Go.Proofs.YtgcncdjnipfolaaDoor
open Go.Al
theorem rightS_app (x : Sm) (lv : Int) : ∀ l : List Sm, rightS (l ++ [x]) lv = (rightS l lv && rightM x lv)
  | [] => by rw [List.nil_append, rightS_cons, rightS_nil]; simp
  | y :: l => by rw [List.cons_append, rightS_cons, rightS_cons, rightS_app x lv l, Bool.and_assoc]
theorem putX_right (e : Ex) : rightM (putX e) 1 = rightX e 2 := by
  rw [putX, rightM]
  simp [Sm.es, Sm.thn, Sm.els, Sm.kind, Sm.name, headS, fitS, rightE_cons, rightE_nil, rightS_nil]
theorem grow_right {p : Pg} {g : Fu} (hg : p.funs[p.funs.length - 1]? = some g) (hr : rightP p = true) (e : Ex) : rightP (addS p (p.funs.length - 1) g (putX e)) = rightX e 2 := by
  obtain ⟨l, hl⟩ := last_split hg
  obtain ⟨vars, arrs, funs⟩ := p
  simp only at hl hg
  subst hl
  have hset : (l ++ [g]).set ((l ++ [g]).length - 1) ⟨g.name, g.params, g.locs, g.word, g.body ++ [putX e]⟩ = l ++ [⟨g.name, g.params, g.locs, g.word, g.body ++ [putX e]⟩] := by
    rw [List.length_append, List.length_singleton, Nat.add_sub_cancel, List.set_append_right _ _ (Nat.le_refl _)]
    simp
  have he : addS ⟨vars, arrs, l ++ [g]⟩ ((l ++ [g]).length - 1) g (putX e) = ⟨vars, arrs, l ++ [⟨g.name, g.params, g.locs, g.word, g.body ++ [putX e]⟩]⟩ := by simp only [addS, hset]
  rw [he]
  simp only [rightP, List.length_append, List.length_cons, List.length_nil, List.all_append, List.all_cons, List.all_nil, rightF, rightS_app, putX_right, Bool.and_true, Bool.and_eq_true, decide_eq_true_eq] at hr ⊢
  obtain ⟨⟨⟨⟨h1, h2⟩, h3⟩, h4⟩, h5, ⟨⟨⟨h6, h7⟩, h8⟩, h9⟩, h10⟩ := hr
  simp only [h1, h4, h5, h6, h8, h9, h10, Bool.true_and, decide_eq_true h2, decide_eq_true h3, decide_eq_true h7]
theorem putX_ok {e : Ex} (he : e.ok) : (putX e).ok := .mk _ _ _ _ _ (by simp [i64R]) (by simp [fitL]) (okE_1 he) (by simp [fitL]) (fun e h => by cases h) (by simp [fitL]) (fun e h => by cases h)
theorem addS_fw {p : Pg} (hp : Fw p) (h1 : 1 ≤ p.funs.length) {g : Fu} (hg : p.funs[p.funs.length - 1]? = some g) {x : Sm} (hx : x.ok) (hsz : szS g.body + x.sz ≤ 10000) : Fw (addS p (p.funs.length - 1) g x) := by
  have hm := List.mem_of_getElem? hg
  have hgo := hp.ok.funs g hm
  have hgs := hp.fs g hm
  have hmem : ∀ f ∈ (addS p (p.funs.length - 1) g x).funs, f ∈ p.funs ∨ f = ⟨g.name, g.params, g.locs, g.word, g.body ++ [x]⟩ := fun f hf => List.mem_or_eq_of_mem_set hf
  have hlen := szS_len' g.body
  refine ⟨⟨hp.ok.vars, hp.ok.afit, hp.ok.arrs, by have := hp.ok.ffit; unfold fitL at this ⊢; simpa [addS] using this, fun f hf => ?_⟩, hp.v, hp.a, by have := hp.f; simpa [addS] using this, fun f hf => ?_⟩
  · rcases hmem f hf with h | rfl
    · exact hp.ok.funs f h
    · refine ⟨hgo.name, hgo.params, hgo.locs, ⟨by unfold fitL; simp only [List.length_append, List.length_singleton]; omega, fun s hs => ?_⟩⟩
      rcases List.mem_append.1 hs with h | h
      · exact hgo.body.all s h
      · rw [List.mem_singleton] at h; rw [h]; exact hx
  · rcases hmem f hf with h | rfl
    · exact hp.fs f h
    · refine ⟨hgs.1, hgs.2.1, ?_⟩
      simp only [szS_app]; omega
end Go.Proofs.YtgcncdjnipfolaaDoor

namespace Go.Proofs.YtgcncdjnipfolaaDoor
open Go.Al
theorem SyntaxGrows_con (p : Pg) (hp : p.ok) (e : Ex) (he : e.ok) : PCon env 9 [p.av, .agg e.row] (.bool true) := by
  have hF := Few_con p hp 100 (by omega) (by omega)
  have hw := fun h => Fw.of hp (m := 100) (by omega) h
  have hR := fun h => (hw h).right
  have hL := LeftExprs_con _ [e] 100 60 (Nat.le_refl _) (okE_1 he) (by omega) (by omega) (by omega) (by omega)
  have hX := RightExpr_con e he 2 (by omega) (by omega)
  have hsz : 0 ≤ leftE [e] 100 60 → e.sz ≤ 100 := fun h => by have := left_sz h; omega
  have hcnt := fun (h : e.sz ≤ 100) => CountExprs_con (szE [e]) [e] (Nat.le_refl _) (by simp only [szE]; omega)
  have hpe := fun (r : rightX e 2 = true) (h : e.sz ≤ 100) => Expr_con e 2 he r (by have := (prE_len e.sz).1 e 2 (Nat.le_refl _) he r; omega)
  have hbody : ∀ (h : fewB p 100 = true) (g : Fu), g ∈ p.funs → szS g.body ≤ 100 := fun h g hg => by
    simp only [fewB, Bool.and_eq_true, decide_eq_true_eq] at h
    have := (leftF_sz _ _ h.2).2 g hg
    omega
  -- what is grown
  have key : ∀ (h : fewB p 100 = true) (r : rightP p = true) (h3 : e.sz ≤ 100), ∃ g q, p.funs[p.funs.length - 1]? = some g ∧ szS g.body ≤ 100 ∧ p.funs.length ≤ 64 ∧ 1 ≤ p.funs.length ∧ q = addS p (p.funs.length - 1) g (putX e) ∧ Fw q ∧ rightP q = rightX e 2 ∧ sizP q = sizP p + 1 + szE [e] ∧ sizP p ≤ 1000000000000 ∧
      ∃ A : Str, prP p = A ++ [125, 10] ∧ prP q = A ++ [32, 32, 112, 117, 116, 40] ++ prE e ++ [41, 59, 10, 125, 10] ∧ 0 < A.length ∧ (rightX e 2 = true → (prP q).length ≤ 140737488355328) := fun h r h3 => by
    have r' := r
    simp only [rightP, Bool.and_eq_true, decide_eq_true_eq] at r'
    have h1 : 1 ≤ p.funs.length := r'.1.1.1.2
    have hg := List.getElem?_eq_getElem (show p.funs.length - 1 < p.funs.length by omega)
    generalize p.funs[p.funs.length - 1] = g at hg
    have hgm := List.mem_of_getElem? hg
    have hgb := hbody h g hgm
    have hx : (putX e).sz = 1 + szE [e] := by rw [Sm.sz_eq]; simp [putX, Sm.es, Sm.thn, Sm.els, szS]
    have hq : Fw (addS p (p.funs.length - 1) g (putX e)) := addS_fw (hw h) h1 hg (putX_ok he) (by rw [hx]; simp only [szE]; omega)
    have hsq := grow_size hg e
    obtain ⟨A, a1, a2, a3⟩ := grow_pr hg e
    refine ⟨g, _, hg, hgb, r'.1.1.2, h1, rfl, hq, grow_right hg r e, hsq, ?_, A, a1, a2, a3, fun r2 => hq.len (by rw [grow_right hg r e]; exact r2)⟩
    have hs := sumF_le 30000 p.funs fun f hf => by have := (hw h).fs f hf; simp only [cntF]; omega
    have := (hw h).v; have := (hw h).a; have := (hw h).f
    simp only [sizP]; omega
  have hpp := fun h r => (hw h).pPrint r
  have hps := fun h => (hw h).psize
  have hsame := fun q (hq : Fw q) => pSame_con p q hp hq.ok
  have hav : p.av = .agg [.isl 1 (p.vars.map strRow), .isl 2 (p.arrs.map Ar.row), .isl 5 (p.funs.map Fu.row)] := rfl
  rw [hav, Ex.row_eq]
  rw [hav] at hF hR hpp hps hsame
  simp only [List.map_cons, List.map_nil, Ex.row_eq] at hL hX hcnt hpe
  refine con_of 98 [.tmp 4] Tryd.func9 rfl rfl rfl rfl ?_
  refine awp_seq_k fun K hK => ?_
  refine awp_region rfl ?_
  simp only [List.length_map, RR, seval]
  refine awpN_intro fun b2 hn2 => ?_
  simp only [List.length_map, RR, seval]
  refine awpN_intro fun b3 hn3 => ?_
  have nb3_b2 : b3 ≠ b2 := fun e => by rw [e] at hn3; simp only [RR, seval, reduceCtorEq] at hn3
  have nb2_b3 : b2 ≠ b3 := fun e => nb3_b2 e.symm
  simp only [nb3_b2, nb2_b3, List.length_map, RR, seval]
  refine hK _ _ ?_; clear hK K
  refine awp_seq ?_
  refine awp_seq_k fun K hK => ?_
  refine awp_region rfl ?_
  simp only [nb3_b2, nb2_b3, List.length_map, RR, seval]
  refine awpC_pure' (awake_con) ?_
  simp only [nb3_b2, nb2_b3, List.length_map, RR, seval]
  refine hK _ _ ?_; clear hK K
  refine awp_if _ rfl (fun hc1 => ?_) (fun hc1 => ?_)
  · simp at hc1
  · refine awp_skip ?_; try simp only [RR]
    refine awp_seq ?_
    refine awp_seq_k fun K hK => ?_
    refine awp_region rfl ?_
    simp only [nb3_b2, nb2_b3, List.length_map, RR, seval]
    all_goals try (refine awpC_pure' (hF) ?_; simp only [nb3_b2, nb2_b3, List.length_map, RR, seval])
    all_goals try ((first | refine awpG_splitN (fun h => ?_) (fun h => ?_) | refine awpG_split (fun h => ?_) (fun h => ?_)) <;> simp only [h, nb3_b2, nb2_b3, List.length_map, RR, seval])
    all_goals try (refine awpC_pure' (hR (by simpa using h)) ?_; simp only [nb3_b2, nb2_b3, List.length_map, RR, seval])
    all_goals try ((first | refine awpG_splitN (fun h => ?_) (fun h => ?_) | refine awpG_split (fun h => ?_) (fun h => ?_)) <;> simp only [h, nb3_b2, nb2_b3, List.length_map, RR, seval])
    all_goals try (refine awpB_sealed ?_; simp only [nb3_b2, nb2_b3, List.length_map, RR, seval])
    all_goals try (refine awpC_pure' (hL) ?_; simp only [nb3_b2, nb2_b3, List.length_map, RR, seval])
    all_goals
      refine hK _ _ ?_; clear hK K
      refine awp_if _ rfl (fun hc3 => ?_) (fun hc3 => ?_)
      · try (cases hc3; done)
        all_goals
          refine awp_seq_k fun K hK => ?_
          refine awp_region rfl ?_
          simp only [List.length_map, RR, seval]
          refine hK _ _ ?_; clear hK K
          refine awp_ret ?_; simp only [bodyQ, aresult, ares, List.length_map, RR, seval]
          refine Gives.pure ?_
          rfl
      · try (cases hc3; done)
        all_goals
          have hfew : fewB p 100 = true := by simp_all
          have hr : rightP p = true := by simp_all
          have hl : 0 ≤ leftE [e] 100 60 := by simp_all
          obtain ⟨g, q, hg0, hgb, h64, h1, hq, hqf, hqr, hqs, hps2, A, ha1, ha2, ha3, hql⟩ := key hfew hr (hsz hl)
          have hpf := hpp hfew hr
          have hpz := hps hfew
          have hgl := szS_len' g.body
          have hg := getF hg0
          have e1 : IntKind.wrap .i64 ((p.funs.length : Int) - 1) = ((p.funs.length - 1 : Nat) : Int) := by rw [IntWalk.i64_in _ (by omega)]; omega
          have z1 : ((p.funs.length - 1 : Nat) : Int) < (p.funs.length : Int) := by omega
          have q1 := one_fus p.funs
          have q2 := one_sms g.body
          have hqsub : SubL [.agg [.isl 1 (p.vars.map strRow), .isl 2 (p.arrs.map Ar.row), .isl 5 ((p.funs.map Fu.row).set (p.funs.length - 1) [.str g.name, .isl 1 (g.params.map strRow), .isl 1 (g.locs.map strRow), .bool g.word, .isl 5 (g.body.map Sm.row ++ [[.int .i64 3, .str [], .isl 5 [[.int .i64 e.kind, .int .i64 e.op, .int .u32 e.num, .str e.name, .isl 5 (e.kids.map Ex.row)]], .nsl, .nsl]])])]] [q.av] := by
            rw [hq, addS_av]
            refine SubR.list (.cons (Sub.aggR (.cons (Sub.refl _) (.cons (Sub.refl _) (.cons (Sub.isl (SubRs.set (.cons (Sub.refl _) (.cons (Sub.refl _) (.cons (Sub.refl _) (.cons (Sub.refl _) (.cons (Sub.isl (SubRs.snoc ?_ _)) .nil))))) _ _)) .nil)))) .nil)
            rw [Sm.row_eq]
            refine .cons (Sub.refl _) (.cons (Sub.refl _) (.cons (Sub.isl (.cons ?_ .nil)) (.cons (Sub.nsl _) (.cons (Sub.nsl _) .nil))))
            rw [Ex.row_eq]; exact SubR.refl _
          have hqs2 : ∀ x, SubL [x, .agg [.isl 1 (p.vars.map strRow), .isl 2 (p.arrs.map Ar.row), .isl 5 ((p.funs.map Fu.row).set (p.funs.length - 1) [.str g.name, .isl 1 (g.params.map strRow), .isl 1 (g.locs.map strRow), .bool g.word, .isl 5 (g.body.map Sm.row ++ [[.int .i64 3, .str [], .isl 5 [[.int .i64 e.kind, .int .i64 e.op, .int .u32 e.num, .str e.name, .isl 5 (e.kids.map Ex.row)]], .nsl, .nsl]])])]] [x, q.av] := fun x => SubL.cons (Sub.refl x) hqsub
          have hsq := hsame q hqf
          have hne : eqB p q = false := eqB_false fun c => by rw [← c] at hqs; omega
          rw [hne] at hsq
          have cq := pRight_con q hqf.ok
          rw [hqr] at cq
          have cz := hqf.psize
          rw [hqs] at cz
          have cp := fun (r2 : rightX e 2 = true) => hqf.pPrint (by rw [hqr]; exact r2)
          rw [ha2] at cp hql
          rw [ha1] at hpf
          have hcn := hcnt (hsz hl)
          have hxe := fun r2 => hpe r2 (hsz hl)
          clear key hcnt hpe hsame hpp hps hR hw
          generalize p.funs.length - 1 = m at *
          generalize prE e = out at *
          have hse : szE [e] ≤ 100 := by have := hsz hl; simp only [szE]; omega
          generalize szE [e] = sze at *
          generalize sizP p = szp at *
          have i1 : IntKind.wrap .i64 ((szp : Int) + 1) = ((szp + 1 : Nat) : Int) := by rw [IntWalk.i64_in _ (by omega)]; omega
          have i2 : IntKind.wrap .i64 (((szp + 1 : Nat) : Int) + (sze : Int)) = ((szp + 1 + sze : Nat) : Int) := by rw [IntWalk.i64_in _ (by omega)]; omega
          refine awp_skip ?_; try simp only [RR]
          refine awp_seq_k fun K hK => ?_
          refine awp_region rfl ?_
          simp only [nb3_b2, nb2_b3, List.length_map, e1, z1, hg, q1, q2, RR, seval]
          refine hK _ _ ?_; clear hK K
          refine awp_seq_k fun K hK => ?_
          refine awp_region rfl ?_
          simp only [nb3_b2, nb2_b3, List.length_map, e1, z1, hg, q1, q2, RR, seval]
          refine awpN_intro fun b6 hn6 => ?_
          have nb6_b2 : b6 ≠ b2 := fun e => by rw [e] at hn6; simp only [nb3_b2, nb2_b3, RR, seval, reduceCtorEq] at hn6
          have nb2_b6 : b2 ≠ b6 := fun e => nb6_b2 e.symm
          have nb6_b3 : b6 ≠ b3 := fun e => by rw [e] at hn6; simp only [nb3_b2, nb2_b3, RR, seval, reduceCtorEq] at hn6
          have nb3_b6 : b3 ≠ b6 := fun e => nb6_b3 e.symm
          simp only [nb3_b2, nb2_b3, nb6_b2, nb2_b6, nb6_b3, nb3_b6, List.length_map, e1, z1, hg, q1, q2, RR, seval]
          refine hK _ _ ?_; clear hK K
          refine awp_seq_k fun K hK => ?_
          refine awp_region rfl ?_
          simp only [nb3_b2, nb2_b3, nb6_b2, nb2_b6, nb6_b3, nb3_b6, List.length_map, e1, z1, hg, q1, q2, RR, seval]
          refine awpB_own fun b29 hn29 => ?_
          have nb29_b2 : b29 ≠ b2 := fun e => by rw [e] at hn29; simp only [nb3_b2, nb2_b3, nb6_b2, nb2_b6, RR, seval, reduceCtorEq] at hn29
          have nb2_b29 : b2 ≠ b29 := fun e => nb29_b2 e.symm
          have nb29_b3 : b29 ≠ b3 := fun e => by rw [e] at hn29; simp only [nb3_b2, nb2_b3, nb6_b3, nb3_b6, RR, seval, reduceCtorEq] at hn29
          have nb3_b29 : b3 ≠ b29 := fun e => nb29_b3 e.symm
          have nb29_b6 : b29 ≠ b6 := fun e => by rw [e] at hn29; simp only [nb6_b2, nb2_b6, nb6_b3, nb3_b6, RR, seval, reduceCtorEq] at hn29
          have nb6_b29 : b6 ≠ b29 := fun e => nb29_b6 e.symm
          simp only [nb3_b2, nb2_b3, nb6_b2, nb2_b6, nb6_b3, nb3_b6, nb29_b2, nb2_b29, nb29_b3, nb3_b29, nb29_b6, nb6_b29, List.length_map, e1, z1, hg, q1, q2, RR, seval]
          refine awpA_osl (b := b29) (upd_same _ _ _) (by first | rfl | (simp only [List.length_map, List.length_append, List.length_cons, List.length_nil, Nat.zero_add]; done) | (simp only [List.length_map, List.length_append, List.length_cons, List.length_nil, List.length_take, Nat.zero_add])) (by (try simp only [List.length_map, List.length_append, List.length_cons, List.length_nil, List.length_take]); omega) (by repeat (first | trivial | assumption | refine ⟨?_, ?_⟩)) fun b32 hn32 => ?_
          have nb32_b2 : b32 ≠ b2 := by rcases hn32 with e | e; rw [e]; exact nb29_b2; intro e2; rw [e2] at e; simp only [nb3_b2, nb2_b3, nb6_b2, nb2_b6, nb6_b3, nb3_b6, nb29_b2, nb2_b29, nb29_b3, nb3_b29, nb29_b6, nb6_b29, List.length_map, e1, z1, hg, q1, q2, RR, seval, reduceCtorEq] at e
          have nb2_b32 : b2 ≠ b32 := fun e => nb32_b2 e.symm
          have nb32_b3 : b32 ≠ b3 := by rcases hn32 with e | e; rw [e]; exact nb29_b3; intro e2; rw [e2] at e; simp only [nb3_b2, nb2_b3, nb6_b2, nb2_b6, nb6_b3, nb3_b6, nb29_b2, nb2_b29, nb29_b3, nb3_b29, nb29_b6, nb6_b29, List.length_map, e1, z1, hg, q1, q2, RR, seval, reduceCtorEq] at e
          have nb3_b32 : b3 ≠ b32 := fun e => nb32_b3 e.symm
          have nb32_b6 : b32 ≠ b6 := by rcases hn32 with e | e; rw [e]; exact nb29_b6; intro e2; rw [e2] at e; simp only [nb3_b2, nb2_b3, nb6_b2, nb2_b6, nb6_b3, nb3_b6, nb29_b2, nb2_b29, nb29_b3, nb3_b29, nb29_b6, nb6_b29, List.length_map, e1, z1, hg, q1, q2, RR, seval, reduceCtorEq] at e
          have nb6_b32 : b6 ≠ b32 := fun e => nb32_b6 e.symm
          simp only [List.length_append, nb3_b2, nb2_b3, nb6_b2, nb2_b6, nb6_b3, nb3_b6, nb29_b2, nb2_b29, nb29_b3, nb3_b29, nb29_b6, nb6_b29, nb32_b2, nb2_b32, nb32_b3, nb3_b32, nb32_b6, nb6_b32, List.length_map, e1, z1, hg, q1, q2, RR, seval]
          refine hK _ _ ?_; clear hK K
          refine awp_seq_k fun K hK => ?_
          refine awp_region_draw2 (fun x => x ≠ b2 ∧ x ≠ b3 ∧ x ≠ b6 ∧ x ≠ b32) [(0, 3), (1, 0), (2, 3), (4, 3), (5, 0), (6, 3), (7, 3), (8, 3), (9, 0), (11, 0), (12, 2), (13, 3), (14, 2), (3, 1), (10, 1), (15, 1), (16, 3), (17, 3)] [(18, 1)] draws (by kernel_rfl) rfl rfl ?_
          simp only [emitF, markOf, EM, nb3_b2, nb2_b3, nb6_b2, nb2_b6, nb6_b3, nb3_b6, nb29_b2, nb2_b29, nb29_b3, nb3_b29, nb29_b6, nb6_b29, nb32_b2, nb2_b32, nb32_b3, nb3_b32, nb32_b6, nb6_b32, List.length_map, e1, z1, hg, q1, q2, RR, seval]
          refine awpB_own fun b37 hn37 => ?_
          have nb37_b2 : b37 ≠ b2 := fun e => by rw [e] at hn37; simp only [nb3_b2, nb2_b3, nb6_b2, nb2_b6, nb29_b2, nb2_b29, nb32_b2, nb2_b32, RR, seval, reduceCtorEq] at hn37
          have nb2_b37 : b2 ≠ b37 := fun e => nb37_b2 e.symm
          have nb37_b3 : b37 ≠ b3 := fun e => by rw [e] at hn37; simp only [nb3_b2, nb2_b3, nb6_b3, nb3_b6, nb29_b3, nb3_b29, nb32_b3, nb3_b32, RR, seval, reduceCtorEq] at hn37
          have nb3_b37 : b3 ≠ b37 := fun e => nb37_b3 e.symm
          have nb37_b6 : b37 ≠ b6 := fun e => by rw [e] at hn37; simp only [nb6_b2, nb2_b6, nb6_b3, nb3_b6, nb29_b6, nb6_b29, nb32_b6, nb6_b32, RR, seval, reduceCtorEq] at hn37
          have nb6_b37 : b6 ≠ b37 := fun e => nb37_b6 e.symm
          have nb37_b32 : b37 ≠ b32 := fun e => by rw [e] at hn37; simp only [nb32_b2, nb2_b32, nb32_b3, nb3_b32, nb32_b6, nb6_b32, RR, seval, reduceCtorEq] at hn37
          have nb32_b37 : b32 ≠ b37 := fun e => nb37_b32 e.symm
          simp only [emitF, markOf, EM, nb3_b2, nb2_b3, nb6_b2, nb2_b6, nb6_b3, nb3_b6, nb29_b2, nb2_b29, nb29_b3, nb3_b29, nb29_b6, nb6_b29, nb32_b2, nb2_b32, nb32_b3, nb3_b32, nb32_b6, nb6_b32, nb37_b2, nb2_b37, nb37_b3, nb3_b37, nb37_b6, nb6_b37, nb37_b32, nb32_b37, List.length_map, e1, z1, hg, q1, q2, RR, seval]
          refine awpA_osl (b := b37) (upd_same _ _ _) (by first | rfl | (simp only [List.length_map, List.length_append, List.length_cons, List.length_nil, Nat.zero_add]; done) | (simp only [List.length_map, List.length_append, List.length_cons, List.length_nil, List.length_take, Nat.zero_add])) (by (try simp only [List.length_map, List.length_append, List.length_cons, List.length_nil, List.length_take]); omega) (by repeat (first | trivial | assumption | refine ⟨?_, ?_⟩)) fun b44 hn44 => ?_
          have nb44_b2 : b44 ≠ b2 := by rcases hn44 with e | e; rw [e]; exact nb37_b2; intro e2; rw [e2] at e; simp only [nb3_b2, nb2_b3, nb6_b2, nb2_b6, nb6_b3, nb3_b6, nb29_b2, nb2_b29, nb29_b3, nb3_b29, nb29_b6, nb6_b29, nb32_b2, nb2_b32, nb32_b3, nb3_b32, nb32_b6, nb6_b32, nb37_b2, nb2_b37, nb37_b3, nb3_b37, nb37_b6, nb6_b37, nb37_b32, nb32_b37, List.length_map, e1, z1, hg, q1, q2, RR, seval, reduceCtorEq] at e
          have nb2_b44 : b2 ≠ b44 := fun e => nb44_b2 e.symm
          have nb44_b3 : b44 ≠ b3 := by rcases hn44 with e | e; rw [e]; exact nb37_b3; intro e2; rw [e2] at e; simp only [nb3_b2, nb2_b3, nb6_b2, nb2_b6, nb6_b3, nb3_b6, nb29_b2, nb2_b29, nb29_b3, nb3_b29, nb29_b6, nb6_b29, nb32_b2, nb2_b32, nb32_b3, nb3_b32, nb32_b6, nb6_b32, nb37_b2, nb2_b37, nb37_b3, nb3_b37, nb37_b6, nb6_b37, nb37_b32, nb32_b37, List.length_map, e1, z1, hg, q1, q2, RR, seval, reduceCtorEq] at e
          have nb3_b44 : b3 ≠ b44 := fun e => nb44_b3 e.symm
          have nb44_b6 : b44 ≠ b6 := by rcases hn44 with e | e; rw [e]; exact nb37_b6; intro e2; rw [e2] at e; simp only [nb3_b2, nb2_b3, nb6_b2, nb2_b6, nb6_b3, nb3_b6, nb29_b2, nb2_b29, nb29_b3, nb3_b29, nb29_b6, nb6_b29, nb32_b2, nb2_b32, nb32_b3, nb3_b32, nb32_b6, nb6_b32, nb37_b2, nb2_b37, nb37_b3, nb3_b37, nb37_b6, nb6_b37, nb37_b32, nb32_b37, List.length_map, e1, z1, hg, q1, q2, RR, seval, reduceCtorEq] at e
          have nb6_b44 : b6 ≠ b44 := fun e => nb44_b6 e.symm
          have nb44_b32 : b44 ≠ b32 := by rcases hn44 with e | e; rw [e]; exact nb37_b32; intro e2; rw [e2] at e; simp only [nb3_b2, nb2_b3, nb6_b2, nb2_b6, nb6_b3, nb3_b6, nb29_b2, nb2_b29, nb29_b3, nb3_b29, nb29_b6, nb6_b29, nb32_b2, nb2_b32, nb32_b3, nb3_b32, nb32_b6, nb6_b32, nb37_b2, nb2_b37, nb37_b3, nb3_b37, nb37_b6, nb6_b37, nb37_b32, nb32_b37, List.length_map, e1, z1, hg, q1, q2, RR, seval, reduceCtorEq] at e
          have nb32_b44 : b32 ≠ b44 := fun e => nb44_b32 e.symm
          simp only [emitF, markOf, EM, List.length_append, nb3_b2, nb2_b3, nb6_b2, nb2_b6, nb6_b3, nb3_b6, nb29_b2, nb2_b29, nb29_b3, nb3_b29, nb29_b6, nb6_b29, nb32_b2, nb2_b32, nb32_b3, nb3_b32, nb32_b6, nb6_b32, nb37_b2, nb2_b37, nb37_b3, nb3_b37, nb37_b6, nb6_b37, nb37_b32, nb32_b37, nb44_b2, nb2_b44, nb44_b3, nb3_b44, nb44_b6, nb6_b44, nb44_b32, nb32_b44, List.length_map, e1, z1, hg, q1, q2, RR, seval]
          refine awpA_osl (b := b44) (upd_same _ _ _) (by first | rfl | (simp only [List.length_map, List.length_append, List.length_cons, List.length_nil, Nat.zero_add]; done) | (simp only [List.length_map, List.length_append, List.length_cons, List.length_nil, List.length_take, Nat.zero_add])) (by (try simp only [List.length_map, List.length_append, List.length_cons, List.length_nil, List.length_take]); omega) (by repeat (first | trivial | assumption | refine ⟨?_, ?_⟩)) fun b49 hn49 => ?_
          have nb49_b2 : b49 ≠ b2 := by rcases hn49 with e | e; rw [e]; exact nb44_b2; intro e2; rw [e2] at e; simp only [nb3_b2, nb2_b3, nb6_b2, nb2_b6, nb6_b3, nb3_b6, nb29_b2, nb2_b29, nb29_b3, nb3_b29, nb29_b6, nb6_b29, nb32_b2, nb2_b32, nb32_b3, nb3_b32, nb32_b6, nb6_b32, nb37_b2, nb2_b37, nb37_b3, nb3_b37, nb37_b6, nb6_b37, nb37_b32, nb32_b37, nb44_b2, nb2_b44, nb44_b3, nb3_b44, nb44_b6, nb6_b44, nb44_b32, nb32_b44, List.length_map, e1, z1, hg, q1, q2, RR, seval, reduceCtorEq] at e
          have nb2_b49 : b2 ≠ b49 := fun e => nb49_b2 e.symm
          have nb49_b3 : b49 ≠ b3 := by rcases hn49 with e | e; rw [e]; exact nb44_b3; intro e2; rw [e2] at e; simp only [nb3_b2, nb2_b3, nb6_b2, nb2_b6, nb6_b3, nb3_b6, nb29_b2, nb2_b29, nb29_b3, nb3_b29, nb29_b6, nb6_b29, nb32_b2, nb2_b32, nb32_b3, nb3_b32, nb32_b6, nb6_b32, nb37_b2, nb2_b37, nb37_b3, nb3_b37, nb37_b6, nb6_b37, nb37_b32, nb32_b37, nb44_b2, nb2_b44, nb44_b3, nb3_b44, nb44_b6, nb6_b44, nb44_b32, nb32_b44, List.length_map, e1, z1, hg, q1, q2, RR, seval, reduceCtorEq] at e
          have nb3_b49 : b3 ≠ b49 := fun e => nb49_b3 e.symm
          have nb49_b6 : b49 ≠ b6 := by rcases hn49 with e | e; rw [e]; exact nb44_b6; intro e2; rw [e2] at e; simp only [nb3_b2, nb2_b3, nb6_b2, nb2_b6, nb6_b3, nb3_b6, nb29_b2, nb2_b29, nb29_b3, nb3_b29, nb29_b6, nb6_b29, nb32_b2, nb2_b32, nb32_b3, nb3_b32, nb32_b6, nb6_b32, nb37_b2, nb2_b37, nb37_b3, nb3_b37, nb37_b6, nb6_b37, nb37_b32, nb32_b37, nb44_b2, nb2_b44, nb44_b3, nb3_b44, nb44_b6, nb6_b44, nb44_b32, nb32_b44, List.length_map, e1, z1, hg, q1, q2, RR, seval, reduceCtorEq] at e
          have nb6_b49 : b6 ≠ b49 := fun e => nb49_b6 e.symm
          have nb49_b32 : b49 ≠ b32 := by rcases hn49 with e | e; rw [e]; exact nb44_b32; intro e2; rw [e2] at e; simp only [nb3_b2, nb2_b3, nb6_b2, nb2_b6, nb6_b3, nb3_b6, nb29_b2, nb2_b29, nb29_b3, nb3_b29, nb29_b6, nb6_b29, nb32_b2, nb2_b32, nb32_b3, nb3_b32, nb32_b6, nb6_b32, nb37_b2, nb2_b37, nb37_b3, nb3_b37, nb37_b6, nb6_b37, nb37_b32, nb32_b37, nb44_b2, nb2_b44, nb44_b3, nb3_b44, nb44_b6, nb6_b44, nb44_b32, nb32_b44, List.length_map, e1, z1, hg, q1, q2, RR, seval, reduceCtorEq] at e
          have nb32_b49 : b32 ≠ b49 := fun e => nb49_b32 e.symm
          simp only [emitF, markOf, EM, List.length_append, nb3_b2, nb2_b3, nb6_b2, nb2_b6, nb6_b3, nb3_b6, nb29_b2, nb2_b29, nb29_b3, nb3_b29, nb29_b6, nb6_b29, nb32_b2, nb2_b32, nb32_b3, nb3_b32, nb32_b6, nb6_b32, nb37_b2, nb2_b37, nb37_b3, nb3_b37, nb37_b6, nb6_b37, nb37_b32, nb32_b37, nb44_b2, nb2_b44, nb44_b3, nb3_b44, nb44_b6, nb6_b44, nb44_b32, nb32_b44, nb49_b2, nb2_b49, nb49_b3, nb3_b49, nb49_b6, nb6_b49, nb49_b32, nb32_b49, List.length_map, e1, z1, hg, q1, q2, RR, seval]
          refine hK _ _ ?_; clear hK K
          refine awp_seq ?_
          refine awp_name fun F1 M1 hfr hH => ?_
          have g2 := hfr 2
          have g3 := hfr 3
          have g4 := hfr 4
          have g6 := hfr 6
          have gb2 := hH b2
          have gb3 := hH b3
          have gb6 := hH b6
          have gb32 := hH b32
          have gb49 := hH b49
          try simp only [nb3_b2, nb2_b3, nb6_b2, nb2_b6, nb6_b3, nb3_b6, nb29_b2, nb2_b29, nb29_b3, nb3_b29, nb29_b6, nb6_b29, nb32_b2, nb2_b32, nb32_b3, nb3_b32, nb32_b6, nb6_b32, nb37_b2, nb2_b37, nb37_b3, nb3_b37, nb37_b6, nb6_b37, nb37_b32, nb32_b37, nb44_b2, nb2_b44, nb44_b3, nb3_b44, nb44_b6, nb6_b44, nb44_b32, nb32_b44, nb49_b2, nb2_b49, nb49_b3, nb3_b49, nb49_b6, nb6_b49, nb49_b32, nb32_b49, List.length_map, e1, z1, hg, q1, q2, RR, seval] at g2 g3 g4 g6 gb2 gb3 gb6 gb32 gb49
          have f2 := g2; clear g2
          have f3 := g3; clear g3
          have f4 := g4; clear g4
          have f6 := g6; clear g6
          have hb2 := gb2; clear gb2
          have hb3 := gb3; clear gb3
          have hb6 := gb6; clear gb6
          have hb32 := gb32; clear gb32
          have hb49 := gb49; clear gb49
          clear hfr hH
          refine awp_freezeAll hb49 ?_
          refine awp_name fun F2 M2 hfr hH => ?_
          have g2 := hfr 2
          have g3 := hfr 3
          have g4 := hfr 4
          have g6 := hfr 6
          have gb2 := hH b2
          have gb3 := hH b3
          have gb6 := hH b6
          have gb32 := hH b32
          try simp only [frzO_rows, List.map_cons, List.map_nil, Option.map_some, frz_osl, frz_isl, frz_int, frz_str, frz_bool, frz_ptr, frz_nsl, frz_self, and_self, List.length_map, List.length_set, List.length_append, List.length_cons, List.length_nil, List.map_set, frz_rowsF flat_fu, f2, f3, f4, f6, hb2, hb3, hb6, hb32, nb3_b2, nb2_b3, nb6_b2, nb2_b6, nb6_b3, nb3_b6, nb29_b2, nb2_b29, nb29_b3, nb3_b29, nb29_b6, nb6_b29, nb32_b2, nb2_b32, nb32_b3, nb3_b32, nb32_b6, nb6_b32, nb37_b2, nb2_b37, nb37_b3, nb3_b37, nb37_b6, nb6_b37, nb37_b32, nb32_b37, nb44_b2, nb2_b44, nb44_b3, nb3_b44, nb44_b6, nb6_b44, nb44_b32, nb32_b44, nb49_b2, nb2_b49, nb49_b3, nb3_b49, nb49_b6, nb6_b49, nb49_b32, nb32_b49, List.length_map, e1, z1, hg, q1, q2, RR, seval] at g2 g3 g4 g6 gb2 gb3 gb6 gb32
          have f2 := g2; clear g2
          have f3 := g3; clear g3
          have f4 := g4; clear g4
          have f6 := g6; clear g6
          have hb2 := gb2; clear gb2
          have hb3 := gb3; clear gb3
          have hb6 := gb6; clear gb6
          have hb32 := gb32; clear gb32
          clear hfr hH
          refine awp_name fun F3 M3 hfr hH => ?_
          have g2 := hfr 2
          have g3 := hfr 3
          have g4 := hfr 4
          have g6 := hfr 6
          have gb2 := hH b2
          have gb3 := hH b3
          have gb6 := hH b6
          have gb32 := hH b32
          try simp only [f2, f3, f4, f6, hb2, hb3, hb6, hb32, nb3_b2, nb2_b3, nb6_b2, nb2_b6, nb6_b3, nb3_b6, nb29_b2, nb2_b29, nb29_b3, nb3_b29, nb29_b6, nb6_b29, nb32_b2, nb2_b32, nb32_b3, nb3_b32, nb32_b6, nb6_b32, nb37_b2, nb2_b37, nb37_b3, nb3_b37, nb37_b6, nb6_b37, nb37_b32, nb32_b37, nb44_b2, nb2_b44, nb44_b3, nb3_b44, nb44_b6, nb6_b44, nb44_b32, nb32_b44, nb49_b2, nb2_b49, nb49_b3, nb3_b49, nb49_b6, nb6_b49, nb49_b32, nb32_b49, List.length_map, e1, z1, hg, q1, q2, RR, seval] at g2 g3 g4 g6 gb2 gb3 gb6 gb32
          have f2 := g2; clear g2
          have f3 := g3; clear g3
          have f4 := g4; clear g4
          have f6 := g6; clear g6
          have hb2 := gb2; clear gb2
          have hb3 := gb3; clear gb3
          have hb6 := gb6; clear gb6
          have hb32 := gb32; clear gb32
          clear hfr hH
          refine awp_freezeAll hb32 ?_
          refine awp_name fun F4 M4 hfr hH => ?_
          have g2 := hfr 2
          have g3 := hfr 3
          have g4 := hfr 4
          have g6 := hfr 6
          have gb2 := hH b2
          have gb3 := hH b3
          have gb6 := hH b6
          try simp only [frzO_rows, List.map_cons, List.map_nil, Option.map_some, frz_osl, frz_isl, frz_int, frz_str, frz_bool, frz_ptr, frz_nsl, frz_self, and_self, List.length_map, List.length_set, List.length_append, List.length_cons, List.length_nil, List.map_set, frz_rowsF flat_fu, f2, f3, f4, f6, hb2, hb3, hb6, nb3_b2, nb2_b3, nb6_b2, nb2_b6, nb6_b3, nb3_b6, nb29_b2, nb2_b29, nb29_b3, nb3_b29, nb29_b6, nb6_b29, nb32_b2, nb2_b32, nb32_b3, nb3_b32, nb32_b6, nb6_b32, nb37_b2, nb2_b37, nb37_b3, nb3_b37, nb37_b6, nb6_b37, nb37_b32, nb32_b37, nb44_b2, nb2_b44, nb44_b3, nb3_b44, nb44_b6, nb6_b44, nb44_b32, nb32_b44, nb49_b2, nb2_b49, nb49_b3, nb3_b49, nb49_b6, nb6_b49, nb49_b32, nb32_b49, List.length_map, e1, z1, hg, q1, q2, RR, seval] at g2 g3 g4 g6 gb2 gb3 gb6
          have f2 := g2; clear g2
          have f3 := g3; clear g3
          have f4 := g4; clear g4
          have f6 := g6; clear g6
          have hb2 := gb2; clear gb2
          have hb3 := gb3; clear gb3
          have hb6 := gb6; clear gb6
          clear hfr hH
          refine awp_seq_k fun K hK => ?_
          refine awp_region_draw2 (fun x => x ≠ b2 ∧ x ≠ b3 ∧ x ≠ b6) [(0, 1), (2, 0), (1, 1), (3, 1), (4, 3)] [] draws (by kernel_rfl) rfl rfl ?_
          simp only [emitF, markOf, EM, f3, f6, hb2, hb3, hb6, nb3_b2, nb2_b3, nb6_b2, nb2_b6, nb6_b3, nb3_b6, nb29_b2, nb2_b29, nb29_b3, nb3_b29, nb29_b6, nb6_b29, nb32_b2, nb2_b32, nb32_b3, nb3_b32, nb32_b6, nb6_b32, nb37_b2, nb2_b37, nb37_b3, nb3_b37, nb37_b6, nb6_b37, nb37_b32, nb32_b37, nb44_b2, nb2_b44, nb44_b3, nb3_b44, nb44_b6, nb6_b44, nb44_b32, nb32_b44, nb49_b2, nb2_b49, nb49_b3, nb3_b49, nb49_b6, nb6_b49, nb49_b32, nb32_b49, List.length_map, e1, z1, hg, q1, q2, RR, seval]
          refine awpC_pure cq hqsub ?_
          simp only [emitF, markOf, EM, f3, f6, hb2, hb3, hb6, nb3_b2, nb2_b3, nb6_b2, nb2_b6, nb6_b3, nb3_b6, nb29_b2, nb2_b29, nb29_b3, nb3_b29, nb29_b6, nb6_b29, nb32_b2, nb2_b32, nb32_b3, nb3_b32, nb32_b6, nb6_b32, nb37_b2, nb2_b37, nb37_b3, nb3_b37, nb37_b6, nb6_b37, nb37_b32, nb32_b37, nb44_b2, nb2_b44, nb44_b3, nb3_b44, nb44_b6, nb6_b44, nb44_b32, nb32_b44, nb49_b2, nb2_b49, nb49_b3, nb3_b49, nb49_b6, nb6_b49, nb49_b32, nb32_b49, List.length_map, e1, z1, hg, q1, q2, RR, seval]
          refine awpC_pure' (hX) ?_
          simp only [emitF, markOf, EM, f3, f6, hb2, hb3, hb6, nb3_b2, nb2_b3, nb6_b2, nb2_b6, nb6_b3, nb3_b6, nb29_b2, nb2_b29, nb29_b3, nb3_b29, nb29_b6, nb6_b29, nb32_b2, nb2_b32, nb32_b3, nb3_b32, nb32_b6, nb6_b32, nb37_b2, nb2_b37, nb37_b3, nb3_b37, nb37_b6, nb6_b37, nb37_b32, nb32_b37, nb44_b2, nb2_b44, nb44_b3, nb3_b44, nb44_b6, nb6_b44, nb44_b32, nb32_b44, nb49_b2, nb2_b49, nb49_b3, nb3_b49, nb49_b6, nb6_b49, nb49_b32, nb32_b49, List.length_map, e1, z1, hg, q1, q2, RR, seval]
          refine hK _ _ ?_; clear hK K
          refine awp_if _ rfl (fun hc9 => ?_) (fun hc9 => ?_)
          · simp at hc9
          · refine awp_skip ?_; try simp only [RR]
            refine awp_seq ?_
            refine awp_seq_k fun K hK => ?_
            refine awp_region rfl ?_
            simp only [f3, hb2, hb3, hb6, nb3_b2, nb2_b3, nb6_b2, nb2_b6, nb6_b3, nb3_b6, nb29_b2, nb2_b29, nb29_b3, nb3_b29, nb29_b6, nb6_b29, nb32_b2, nb2_b32, nb32_b3, nb3_b32, nb32_b6, nb6_b32, nb37_b2, nb2_b37, nb37_b3, nb3_b37, nb37_b6, nb6_b37, nb37_b32, nb32_b37, nb44_b2, nb2_b44, nb44_b3, nb3_b44, nb44_b6, nb6_b44, nb44_b32, nb32_b44, nb49_b2, nb2_b49, nb49_b3, nb3_b49, nb49_b6, nb6_b49, nb49_b32, nb32_b49, List.length_map, e1, z1, hg, q1, q2, RR, seval]
            refine awpC_pure' (hX) ?_
            simp only [f3, hb2, hb3, hb6, nb3_b2, nb2_b3, nb6_b2, nb2_b6, nb6_b3, nb3_b6, nb29_b2, nb2_b29, nb29_b3, nb3_b29, nb29_b6, nb6_b29, nb32_b2, nb2_b32, nb32_b3, nb3_b32, nb32_b6, nb6_b32, nb37_b2, nb2_b37, nb37_b3, nb3_b37, nb37_b6, nb6_b37, nb37_b32, nb32_b37, nb44_b2, nb2_b44, nb44_b3, nb3_b44, nb44_b6, nb6_b44, nb44_b32, nb32_b44, nb49_b2, nb2_b49, nb49_b3, nb3_b49, nb49_b6, nb6_b49, nb49_b32, nb32_b49, List.length_map, e1, z1, hg, q1, q2, RR, seval]
            refine hK _ _ ?_; clear hK K
            refine awp_if _ rfl (fun hc11 => ?_) (fun hc11 => ?_)
            · refine awp_seq_k fun K hK => ?_
              refine awp_region rfl ?_
              simp only [List.length_map, e1, z1, hg, q1, q2, RR, seval]
              refine hK _ _ ?_; clear hK K
              refine awp_ret ?_; simp only [bodyQ, aresult, ares, f4, List.length_map, e1, z1, hg, q1, q2, RR, seval]
              refine Gives.pure ?_
              rfl
            · have hr2 : rightX e 2 = true := by simpa using hc11
              have hql2 := hql hr2
              simp only [List.length_append, List.length_cons, List.length_nil] at hql2
              have i3 : IntKind.wrap .i64 (((A ++ [125, 10]).length : Int) - 2) = (A.length : Int) := by rw [List.length_append, IntWalk.i64_in _ (by simp only [List.length_cons, List.length_nil]; omega)]; simp only [List.length_cons, List.length_nil]; omega
              have i4 : decide ((2 : Int) < ((A ++ [125, 10]).length : Int)) = true := decide_eq_true (by simp only [List.length_append, List.length_cons, List.length_nil]; omega)
              have i5 : (A ++ [125, 10]).take A.length = A := List.take_left
              have i6 : (A.length : Int) ≤ ((A ++ [125, 10]).length : Int) := by simp only [List.length_append]; omega
              refine awp_skip ?_; try simp only [RR]
              refine awp_seq_k fun K hK => ?_
              refine awp_region rfl ?_
              simp only [f2, hb2, hb3, hb6, nb3_b2, nb2_b3, nb6_b2, nb2_b6, nb6_b3, nb3_b6, nb29_b2, nb2_b29, nb29_b3, nb3_b29, nb29_b6, nb6_b29, nb32_b2, nb2_b32, nb32_b3, nb3_b32, nb32_b6, nb6_b32, nb37_b2, nb2_b37, nb37_b3, nb3_b37, nb37_b6, nb6_b37, nb37_b32, nb32_b37, nb44_b2, nb2_b44, nb44_b3, nb3_b44, nb44_b6, nb6_b44, nb44_b32, nb32_b44, nb49_b2, nb2_b49, nb49_b3, nb3_b49, nb49_b6, nb6_b49, nb49_b32, nb32_b49, List.length_map, e1, z1, hg, q1, q2, i1, i2, i3, i4, i5, i6, Nat.sub_zero, RR, seval]
              refine awpC_pure' (hpf) ?_
              simp only [f2, hb2, hb3, hb6, nb3_b2, nb2_b3, nb6_b2, nb2_b6, nb6_b3, nb3_b6, nb29_b2, nb2_b29, nb29_b3, nb3_b29, nb29_b6, nb6_b29, nb32_b2, nb2_b32, nb32_b3, nb3_b32, nb32_b6, nb6_b32, nb37_b2, nb2_b37, nb37_b3, nb3_b37, nb37_b6, nb6_b37, nb37_b32, nb32_b37, nb44_b2, nb2_b44, nb44_b3, nb3_b44, nb44_b6, nb6_b44, nb44_b32, nb32_b44, nb49_b2, nb2_b49, nb49_b3, nb3_b49, nb49_b6, nb6_b49, nb49_b32, nb32_b49, List.length_map, e1, z1, hg, q1, q2, i1, i2, i3, i4, i5, i6, Nat.sub_zero, RR, seval]
              refine hK _ _ ?_; clear hK K
              have hcat5 : (A).length + 6 ≤ maxLen := by unfold maxLen; (try simp only [List.length_append, List.length_cons, List.length_nil]); omega
              have hcat6 : (A ++ [32, 32, 112, 117, 116, 40]).length + (out).length ≤ maxLen := by unfold maxLen; (try simp only [List.length_append, List.length_cons, List.length_nil]); omega
              have hcat7 : (A ++ [32, 32, 112, 117, 116, 40] ++ out).length + 5 ≤ maxLen := by unfold maxLen; (try simp only [List.length_append, List.length_cons, List.length_nil]); omega
              refine awp_seq_k fun K hK => ?_
              refine awp_region_draw2 (fun x => x ≠ b2 ∧ x ≠ b3 ∧ x ≠ b6) [(0, 0), (2, 0), (5, 0), (6, 2), (1, 1), (3, 1), (4, 3), (7, 1), (8, 3), (9, 3), (10, 3), (11, 3), (12, 3), (13, 3), (14, 3), (15, 3), (16, 1), (18, 3), (19, 3), (20, 3), (21, 3), (22, 3), (23, 3), (24, 0), (17, 1), (25, 1), (26, 3), (27, 3), (28, 3), (29, 3), (30, 3), (31, 1), (32, 1), (33, 1), (34, 3), (35, 3), (36, 3)] [] draws (by kernel_rfl) rfl rfl ?_
              simp only [emitF, markOf, EM, f2, f3, f6, hb2, hb3, hb6, nb3_b2, nb2_b3, nb6_b2, nb2_b6, nb6_b3, nb3_b6, nb29_b2, nb2_b29, nb29_b3, nb3_b29, nb29_b6, nb6_b29, nb32_b2, nb2_b32, nb32_b3, nb3_b32, nb32_b6, nb6_b32, nb37_b2, nb2_b37, nb37_b3, nb3_b37, nb37_b6, nb6_b37, nb37_b32, nb32_b37, nb44_b2, nb2_b44, nb44_b3, nb3_b44, nb44_b6, nb6_b44, nb44_b32, nb32_b44, nb49_b2, nb2_b49, nb49_b3, nb3_b49, nb49_b6, nb6_b49, nb49_b32, nb32_b49, List.length_map, e1, z1, hg, q1, q2, i1, i2, i3, i4, i5, i6, Nat.sub_zero, hcat5, hcat6, hcat7, RR, seval]
              refine awpC_pure cz hqsub ?_
              simp only [emitF, markOf, EM, f2, f3, f6, hb2, hb3, hb6, nb3_b2, nb2_b3, nb6_b2, nb2_b6, nb6_b3, nb3_b6, nb29_b2, nb2_b29, nb29_b3, nb3_b29, nb29_b6, nb6_b29, nb32_b2, nb2_b32, nb32_b3, nb3_b32, nb32_b6, nb6_b32, nb37_b2, nb2_b37, nb37_b3, nb3_b37, nb37_b6, nb6_b37, nb37_b32, nb32_b37, nb44_b2, nb2_b44, nb44_b3, nb3_b44, nb44_b6, nb6_b44, nb44_b32, nb32_b44, nb49_b2, nb2_b49, nb49_b3, nb3_b49, nb49_b6, nb6_b49, nb49_b32, nb32_b49, List.length_map, e1, z1, hg, q1, q2, i1, i2, i3, i4, i5, i6, Nat.sub_zero, hcat5, hcat6, hcat7, RR, seval]
              refine awpC_pure' (hpz) ?_
              simp only [emitF, markOf, EM, f2, f3, f6, hb2, hb3, hb6, nb3_b2, nb2_b3, nb6_b2, nb2_b6, nb6_b3, nb3_b6, nb29_b2, nb2_b29, nb29_b3, nb3_b29, nb29_b6, nb6_b29, nb32_b2, nb2_b32, nb32_b3, nb3_b32, nb32_b6, nb6_b32, nb37_b2, nb2_b37, nb37_b3, nb3_b37, nb37_b6, nb6_b37, nb37_b32, nb32_b37, nb44_b2, nb2_b44, nb44_b3, nb3_b44, nb44_b6, nb6_b44, nb44_b32, nb32_b44, nb49_b2, nb2_b49, nb49_b3, nb3_b49, nb49_b6, nb6_b49, nb49_b32, nb32_b49, List.length_map, e1, z1, hg, q1, q2, i1, i2, i3, i4, i5, i6, Nat.sub_zero, hcat5, hcat6, hcat7, RR, seval]
              refine awpC_pure' (hcn) ?_
              simp only [emitF, markOf, EM, f2, f3, f6, hb2, hb3, hb6, nb3_b2, nb2_b3, nb6_b2, nb2_b6, nb6_b3, nb3_b6, nb29_b2, nb2_b29, nb29_b3, nb3_b29, nb29_b6, nb6_b29, nb32_b2, nb2_b32, nb32_b3, nb3_b32, nb32_b6, nb6_b32, nb37_b2, nb2_b37, nb37_b3, nb3_b37, nb37_b6, nb6_b37, nb37_b32, nb32_b37, nb44_b2, nb2_b44, nb44_b3, nb3_b44, nb44_b6, nb6_b44, nb44_b32, nb32_b44, nb49_b2, nb2_b49, nb49_b3, nb3_b49, nb49_b6, nb6_b49, nb49_b32, nb32_b49, List.length_map, e1, z1, hg, q1, q2, i1, i2, i3, i4, i5, i6, Nat.sub_zero, hcat5, hcat6, hcat7, RR, seval]
              refine awpC_pure (cp hr2) hqsub ?_
              simp only [emitF, markOf, EM, f2, f3, f6, hb2, hb3, hb6, nb3_b2, nb2_b3, nb6_b2, nb2_b6, nb6_b3, nb3_b6, nb29_b2, nb2_b29, nb29_b3, nb3_b29, nb29_b6, nb6_b29, nb32_b2, nb2_b32, nb32_b3, nb3_b32, nb32_b6, nb6_b32, nb37_b2, nb2_b37, nb37_b3, nb3_b37, nb37_b6, nb6_b37, nb37_b32, nb32_b37, nb44_b2, nb2_b44, nb44_b3, nb3_b44, nb44_b6, nb6_b44, nb44_b32, nb32_b44, nb49_b2, nb2_b49, nb49_b3, nb3_b49, nb49_b6, nb6_b49, nb49_b32, nb32_b49, List.length_map, e1, z1, hg, q1, q2, i1, i2, i3, i4, i5, i6, Nat.sub_zero, hcat5, hcat6, hcat7, RR, seval]
              refine awpC_pure' (hxe hr2) ?_
              simp only [emitF, markOf, EM, f2, f3, f6, hb2, hb3, hb6, nb3_b2, nb2_b3, nb6_b2, nb2_b6, nb6_b3, nb3_b6, nb29_b2, nb2_b29, nb29_b3, nb3_b29, nb29_b6, nb6_b29, nb32_b2, nb2_b32, nb32_b3, nb3_b32, nb32_b6, nb6_b32, nb37_b2, nb2_b37, nb37_b3, nb3_b37, nb37_b6, nb6_b37, nb37_b32, nb32_b37, nb44_b2, nb2_b44, nb44_b3, nb3_b44, nb44_b6, nb6_b44, nb44_b32, nb32_b44, nb49_b2, nb2_b49, nb49_b3, nb3_b49, nb49_b6, nb6_b49, nb49_b32, nb32_b49, List.length_map, e1, z1, hg, q1, q2, i1, i2, i3, i4, i5, i6, Nat.sub_zero, hcat5, hcat6, hcat7, RR, seval]
              refine awpC_pure hsq (hqs2 _) ?_
              simp only [emitF, markOf, EM, f2, f3, f6, hb2, hb3, hb6, nb3_b2, nb2_b3, nb6_b2, nb2_b6, nb6_b3, nb3_b6, nb29_b2, nb2_b29, nb29_b3, nb3_b29, nb29_b6, nb6_b29, nb32_b2, nb2_b32, nb32_b3, nb3_b32, nb32_b6, nb6_b32, nb37_b2, nb2_b37, nb37_b3, nb3_b37, nb37_b6, nb6_b37, nb37_b32, nb32_b37, nb44_b2, nb2_b44, nb44_b3, nb3_b44, nb44_b6, nb6_b44, nb44_b32, nb32_b44, nb49_b2, nb2_b49, nb49_b3, nb3_b49, nb49_b6, nb6_b49, nb49_b32, nb32_b49, List.length_map, e1, z1, hg, q1, q2, i1, i2, i3, i4, i5, i6, Nat.sub_zero, hcat5, hcat6, hcat7, RR, seval]
              refine hK _ _ ?_; clear hK K
              refine awp_ret ?_; simp only [bodyQ, aresult, ares, f4, List.length_map, e1, z1, hg, q1, q2, i1, i2, i3, i4, i5, i6, Nat.sub_zero, hcat5, hcat6, hcat7, RR, seval]
              refine Gives.pure ?_
              rfl
end Go.Proofs.YtgcncdjnipfolaaDoor
