/- Chapter 16, the judge's: are numbers right? Check; comparing lists of lists. -/
import Derived.Test.YtlokndnkpleegaaS16c
import Derived.Test.YtlokndnkpleegaaAlY
set_option linter.unusedSimpArgs false
set_option linter.unusedVariables false
set_option maxRecDepth 10000
namespace Go.Al
def intRow (n : Int) : List AV := [.int .i64 n]
def intsRow (l : List Int) : List AV := [.isl 1 (l.map intRow)]
theorem getI {l : List Int} {i : Nat} {n : Int} (h : l[i]? = some n) : (l.map intRow)[i]? = some [.int .i64 n] := getRow _ h
theorem getII {l : List (List Int)} {i : Nat} {n : List Int} (h : l[i]? = some n) : (l.map intsRow)[i]? = some [.isl 1 (n.map intRow)] := getRow _ h
end Go.Al
namespace Go.Proofs.Ytlokndnkpleegaa
open Go.Al
set_option maxHeartbeats 4000000 in
theorem numbers16_con (p : Pg) (hp : p.few) (hn : namesB p = true) (h1 : 1 ≤ p.funs.length) : PCon env 59 [p.av] (.bool (numsB p)) := by
  have hok := hp.ok
  have ga := hp.f
  have hfind := fun i hi s => Find_con p hp i hi s
  have hN : numsB p = (numsFrom p 0 p.funs && lastB p) := rfl
  have hL : lastB p = match p.funs[p.funs.length - 1]? with | some g => decide (g.name = mainS) && decide (g.params.length = 0) && !g.word | none => false := rfl
  have hok2 : ∀ (i : Nat) (u : Us), numU p i u = (!decide (u.kind = 4) || (match p.funs[(findF p i u.name).2.toNat]? with | some g => decide ((g.params.length : Int) = u.num) | none => false)) := fun _ _ => rfl
  have hstep : ∀ (i : Nat) (f : Fu) (l : List Fu), numsFrom p i (f :: l) = ((usesS f.body).all (numU p i) && numsFrom p (i + 1) l) := fun _ _ _ => rfl
  have hnil : ∀ i : Nat, numsFrom p i [] = true := fun _ => rfl
  have hcall : ∀ (i : Nat) f, p.funs[i]? = some f → ∀ u ∈ usesS f.body, u.kind = 4 → 0 ≤ (findF p i u.name).2 ∧ (findF p i u.name).2 < p.funs.length := fun i f hf u hu hk => by
    simp only [namesB, Bool.and_eq_true] at hn
    have h2 := (namesFrom_get p p.funs 0 hn.2 i f hf).2
    rw [List.all_eq_true, Nat.zero_add] at h2
    have h3 := h2 u hu
    refine findF_call p i u.name ?_
    simp only [okUse, hk, decide_true, Bool.true_and] at h3
    by_cases h4 : (findF p i u.name).1 = 4
    · exact h4
    · simp [h4] at h3
  have hfs := hp.fs
  have hokf := hok.funs
  generalize lastB p = LB at *
  generalize numsFrom p = NF at *
  generalize numU p = OU at *
  generalize findF p = FF at *
  generalize numsB p = res at hN ⊢
  obtain ⟨vs, aa, fs⟩ := p
  simp only [Pg.av, Pg.row] at hfind ⊢
  simp only at ga hfs hokf hN hcall hok2 hL h1
  refine con_of 81 [.tmp 2] Try.func59 rfl rfl rfl rfl ?_
  refine awp_cutK (fun fr H => ∃ b, fr 1 = .ptr 3 b 0 0 ∧ H b = some (.rows 3 [[.isl 1 (vs.map strRow), .isl 2 (aa.map Ar.row), .isl 5 (fs.map Fu.row)]])) (fun K hK => ?_) ?_
  · refine awp_region rfl ?_; simp only [RR, seval]
    refine awpN_intro fun b hb => ?_; simp only [RR, seval]
    exact hK _ _ ⟨b, rfl, upd_same _ _ _⟩
  rintro fr H ⟨b, f1, hb⟩
  refine awp_cutK (fun fr H => res = LB ∧ fr 1 = .ptr 3 b 0 0 ∧ H b = some (.rows 3 [[.isl 1 (vs.map strRow), .isl 2 (aa.map Ar.row), .isl 5 (fs.map Fu.row)]])) (fun K hK => ?_) ?_
  · refine awp_seq_k fun K hK => ?_; refine awp_region rfl ?_; simp only [RR, seval]
    refine hK _ _ ?_; clear hK K
    refine awp_block ?_
    refine awp_loopK (fun mm fr H => ∃ k : Nat, mm = fs.length - k ∧ k ≤ fs.length ∧ fr 3 = .int .i64 k ∧ fr 1 = .ptr 3 b 0 0 ∧ H b = some (.rows 3 [[.isl 1 (vs.map strRow), .isl 2 (aa.map Ar.row), .isl 5 (fs.map Fu.row)]]) ∧ res = (NF k (fs.drop k) && LB)) (fs.length) ⟨0, rfl, Nat.zero_le _, rfl, f1, hb, by rw [List.drop_zero]; exact hN⟩ ?_
    rintro mm fr H ⟨k, rfl, hkk, hik, f1, hb, hall⟩ K2 hK2
    refine awp_seq ?_
    refine awp_seq_k fun K hK => ?_; refine awp_region rfl ?_; simp only [RR, seval]
    simp only [hik, f1, hb,List.length_map, RR, seval]
    refine hK _ _ ?_; clear hK K
    refine awp_if _ rfl (fun hc => ?_) (fun hc => ?_)
    · have hltk : k < fs.length := by have := of_decide_eq_true hc; omega
      clear hc
      refine awp_skip ?_; simp only [thenQ, blockQ]
      refine awp_seq ?_
      refine awp_block ?_
      have hg0 := List.getElem?_eq_getElem hltk
      have hg := getF hg0
      have hfsk := hfs _ (List.getElem_mem hltk)
      have hokk := hokf _ (List.getElem_mem hltk)
      have hck := hcall k _ hg0
      rw [List.drop_eq_getElem_cons hltk, hstep] at hall
      generalize fs[k] = g at hg hfsk hokk hall hck
      have hus := Uses_con _ g.body rfl (by omega) hokk.body
      have hul := usesS_len _ g.body rfl
      refine awp_seq_k fun K hK => ?_; refine awp_region rfl ?_; simp only [RR, seval]
      simp only [f1, hb, hik, hg, RR, seval]
      refine awpC_pure' hus ?_; simp only [RR, seval]
      refine hK _ _ ?_; clear hK K
      generalize usesS g.body = us at hall hul hck
      refine awp_seq_k fun K hK => ?_; refine awp_region rfl ?_; simp only [RR, seval]
      refine hK _ _ ?_; clear hK K
      refine awp_block ?_
      refine awp_loopK (fun mm fr H => ∃ j : Nat, mm = us.length - j ∧ j ≤ us.length ∧ fr 5 = .int .i64 j ∧ fr 1 = .ptr 3 b 0 0 ∧ H b = some (.rows 3 [[.isl 1 (vs.map strRow), .isl 2 (aa.map Ar.row), .isl 5 (fs.map Fu.row)]]) ∧ fr 3 = .int .i64 k ∧ fr 4 = .isl 3 (us.map Us.row) ∧ us.all (OU k) = (us.drop j).all (OU k)) (us.length) ⟨0, rfl, Nat.zero_le _, rfl, f1, hb, hik, rfl, by rw [List.drop_zero]⟩ ?_
      rintro mm fr H ⟨j, rfl, hkj, hij, f1, hb, hik, f4, hua⟩ K3 hK3
      refine awp_seq ?_
      refine awp_seq_k fun K hK => ?_; refine awp_region rfl ?_; simp only [RR, seval]
      simp only [hij, f4,List.length_map, RR, seval]
      refine hK _ _ ?_; clear hK K
      refine awp_if _ rfl (fun hc => ?_) (fun hc => ?_)
      · have hltj : j < us.length := by have := of_decide_eq_true hc; omega
        clear hc
        refine awp_skip ?_; simp only [thenQ, blockQ]
        refine awp_seq ?_
        refine awp_block ?_
        have hgu := getU (List.getElem?_eq_getElem hltj)
        have hcu := hck _ (List.getElem_mem hltj)
        rw [List.drop_eq_getElem_cons hltj, List.all_cons] at hua
        generalize us[j] = u at hgu hua hcu
        have hou := hok2 k u
        by_cases hk4 : u.kind = 4
        · have hfn := hfind k hltk u.name
          obtain ⟨c1, c2⟩ := hcu hk4
          generalize FF k u.name = r at hfn hou c1 c2
          obtain ⟨n, hn2⟩ := Int.eq_ofNat_of_zero_le c1
          have hnl : n < fs.length := by omega
          have hgn := getF (List.getElem?_eq_getElem hnl)
          rw [hn2, Int.toNat_natCast, List.getElem?_eq_getElem hnl, hk4] at hou
          simp only [decide_true, Bool.not_true, Bool.false_or] at hou
          generalize fs[n] = gn at hgn hou
          have k4 : decide (u.kind = 4) = true := decide_eq_true hk4
          refine awp_seq ?_
          refine awp_seq_k fun K hK => ?_; refine awp_region rfl ?_; simp only [RR, seval]
          simp only [hij, f4, hgu, k4, RR, seval]
          refine hK _ _ ?_; clear hK K
          refine awp_if false rfl (fun hc => by cases hc) (fun _ => ?_)
          refine awp_skip ?_; simp only [thenQ, blockQ]
          refine awp_seq_k fun K hK => ?_
          refine awp_region_draw (fun x => x ≠ b) [(0, true), (1, true), (2, true), (3, true), (4, true), (5, true), (6, true), (7, true), (8, true), (9, true), (10, true), (11, true), (12, true)] draws (by kernel_rfl) rfl ?_
          simp only [emit, markOf, f1, hb, hik, hij, f4, hgu, awpL_entry, touch_ptr, touch_ipt, RR, seval]
          refine awpC_pure' hfn ?_
          simp only [f1, hb, hik, hij, f4, hgu, hn2, awpL_entry, touch_ptr, touch_ipt, RR, seval]
          refine hK _ _ ?_; clear hK K
          refine awp_seq_k fun K hK => ?_
          refine awp_region_draw (fun x => x ≠ b) [(0, true), (1, true), (2, true), (3, true), (4, true), (5, true), (6, true), (7, true), (8, true), (9, true), (10, true), (11, true), (12, true)] draws (by kernel_rfl) rfl ?_
          simp only [emit, markOf, f1, hb, hik, hij, f4, hgu, hgn, awpL_entry, touch_ptr, touch_ipt, List.length_map, RR, seval]
          refine hK _ _ ?_; clear hK K
          refine awp_if (!decide ((gn.params.length : Int) = u.num)) rfl (fun hc => ?_) (fun hc => ?_)
          · repeat' (first | (refine awp_seq_k fun K hK => ?_; refine awp_region rfl ?_; simp only [f1, RR, seval]; refine hK _ _ ?_; clear hK K) | (refine awp_seq ?_) | (refine awp_block ?_) | (refine awp_if true rfl (fun _ => ?_) (fun hc => by cases hc)) | (refine awp_if false rfl (fun hc => by cases hc) (fun _ => ?_)) | (refine awp_skip ?_; simp only [thenQ, blockQ]) | (refine awp_exit ?_; simp only [thenQ, blockQ, reduceIte, Nat.reduceEqDiff]) | (refine awp_region rfl ?_; simp only [f1, thenQ, blockQ, RR, seval]) | (refine awpG_splitN (fun h => ?_) (fun h => ?_) <;> simp only [h, f1, thenQ, blockQ, RR, seval]) | (refine awpG_split (fun h => ?_) (fun h => ?_) <;> simp only [h, f1, thenQ, blockQ, RR, seval]) | (refine awp_if _ rfl (fun h => ?_) (fun h => ?_)) | (refine awp_ret ?_; simp only [thenQ, blockQ, bodyQ, aresult, ares, argF, f1, RR, seval]; refine Gives.pure ?_))
            rw [hall, hua, hou, show decide ((gn.params.length : Int) = u.num) = false by simpa using hc]; rfl
          · rw [hou, show decide ((gn.params.length : Int) = u.num) = true by simpa using hc, Bool.true_and] at hua
            refine awp_skip ?_; simp only [thenQ, blockQ]
            refine awp_region rfl ?_; simp only [RR, seval]
            simp only [hij, thenQ, blockQ, RR, seval]
            rw [IntWalk.i64_in _ (by omega)]
            refine hK3 (us.length - (j + 1)) _ _ (by omega) ⟨j + 1, rfl, by omega, rfl, f1, hb, hik, f4, hua⟩
        · have k4 : decide (u.kind = 4) = false := decide_eq_false hk4
          rw [k4] at hou
          simp only [Bool.not_false, Bool.true_or] at hou
          rw [hou, Bool.true_and] at hua
          refine awp_seq ?_
          refine awp_seq_k fun K hK => ?_; refine awp_region rfl ?_; simp only [RR, seval]
          simp only [hij, f4, hgu, k4, RR, seval]
          refine hK _ _ ?_; clear hK K
          refine awp_if true rfl (fun _ => ?_) (fun hc => by cases hc)
          refine awp_exit ?_; simp only [thenQ, blockQ, reduceIte, Nat.reduceEqDiff]
          refine awp_region rfl ?_; simp only [RR, seval]
          simp only [hij, thenQ, blockQ, RR, seval]
          rw [IntWalk.i64_in _ (by omega)]
          refine hK3 (us.length - (j + 1)) _ _ (by omega) ⟨j + 1, rfl, by omega, rfl, f1, hb, hik, f4, hua⟩
      · refine awp_exit ?_; simp only [thenQ, blockQ, reduceIte, Nat.reduceEqDiff]
        have hknj : j = us.length := by have := of_decide_eq_false hc; omega
        clear hc
        subst hknj
        rw [List.drop_length] at hua
        rw [hua, List.all_nil, Bool.true_and] at hall
        try simp only [thenQ, blockQ]
        refine awp_region rfl ?_; simp only [RR, seval]
        simp only [hik, thenQ, blockQ, RR, seval]
        rw [IntWalk.i64_in _ (by omega)]
        refine hK2 (fs.length - (k + 1)) _ _ (by omega) ⟨k + 1, rfl, by omega, rfl, f1, hb, hall⟩
    · refine awp_exit ?_; simp only [thenQ, blockQ, reduceIte, Nat.reduceEqDiff]
      have hknk : k = fs.length := by have := of_decide_eq_false hc; omega
      clear hc
      subst hknk
      rw [List.drop_length, hnil, Bool.true_and] at hall
      exact hK _ _ ⟨hall, f1, hb⟩
  · rintro fr H ⟨hres, f1, hb⟩
    have hlt : fs.length - 1 < fs.length := by omega
    have hg := getF (List.getElem?_eq_getElem hlt)
    rw [List.getElem?_eq_getElem hlt] at hL
    generalize fs[fs.length - 1] = g at hg hL
    have w1 : IntKind.wrap .i64 ((fs.length : Int) - 1) = ((fs.length - 1 : Nat) : Int) := by rw [IntWalk.i64_in _ (by omega)]; omega
    have d1 : decide ((g.params.length : Int) = 0) = decide (g.params.length = 0) := by rw [Bool.eq_iff_iff]; simp only [decide_eq_true_eq]; omega
    refine awp_seq_k fun K hK => ?_; refine awp_region rfl ?_; simp only [RR, seval]
    simp only [f1, hb, w1, hg, List.length_map, RR, seval]
    refine awpN_intro fun b1 hb1 => ?_
    simp only [RR, seval]
    refine hK _ _ ?_; clear hK K
    have hH1 : (upd (upd H b1 (some (.rows 5 [[.str [], .nsl, .nsl, .bool false, .nsl]]))) b1 (some (.rows 5 [[.str g.name, .isl 1 (g.params.map strRow), .isl 1 (g.locs.map strRow), .bool g.word, .isl 5 (g.body.map Sm.row)]]))) b1 = some (.rows 5 [[.str g.name, .isl 1 (g.params.map strRow), .isl 1 (g.locs.map strRow), .bool g.word, .isl 5 (g.body.map Sm.row)]]) := upd_same _ _ _
    generalize (upd (upd H b1 (some (.rows 5 [[.str [], .nsl, .nsl, .bool false, .nsl]]))) b1 (some (.rows 5 [[.str g.name, .isl 1 (g.params.map strRow), .isl 1 (g.locs.map strRow), .bool g.word, .isl 5 (g.body.map Sm.row)]]))) = H1 at hH1 ⊢
    simp only at hL
    subst hres
    rw [hL]
    cases e1 : decide (g.name = mainS) with
    | false =>
      have e1' : decide (g.name = [109, 97, 105, 110]) = false := e1
      repeat' (first | (refine awp_seq_k fun K hK => ?_; refine awp_region rfl ?_; simp only [hH1, e1', d1, List.length_map, RR, seval]; refine hK _ _ ?_; clear hK K) | (refine awp_seq ?_) | (refine awp_block ?_) | (refine awp_if true rfl (fun _ => ?_) (fun hc => by cases hc)) | (refine awp_if false rfl (fun hc => by cases hc) (fun _ => ?_)) | (refine awp_skip ?_; simp only [thenQ, blockQ]) | (refine awp_exit ?_; simp only [thenQ, blockQ, reduceIte, Nat.reduceEqDiff]) | (refine awp_region rfl ?_; simp only [hH1, e1', d1, List.length_map, thenQ, blockQ, RR, seval]) | (refine awpG_splitN (fun h => ?_) (fun h => ?_) <;> simp only [h, hH1, e1', d1, List.length_map, thenQ, blockQ, RR, seval]) | (refine awpG_split (fun h => ?_) (fun h => ?_) <;> simp only [h, hH1, e1', d1, List.length_map, thenQ, blockQ, RR, seval]) | (refine awp_if _ rfl (fun h => ?_) (fun h => ?_)) | (refine awp_ret ?_; simp only [thenQ, blockQ, bodyQ, aresult, ares, argF, hH1, e1', d1, List.length_map, RR, seval]; refine Gives.pure ?_))
      rfl
    | true =>
      have e1' : decide (g.name = [109, 97, 105, 110]) = true := e1
      cases e2 : decide (g.params.length = 0) with
      | false =>
        rw [e2] at d1
        repeat' (first | (refine awp_seq_k fun K hK => ?_; refine awp_region rfl ?_; simp only [hH1, e1', d1, List.length_map, RR, seval]; refine hK _ _ ?_; clear hK K) | (refine awp_seq ?_) | (refine awp_block ?_) | (refine awp_if true rfl (fun _ => ?_) (fun hc => by cases hc)) | (refine awp_if false rfl (fun hc => by cases hc) (fun _ => ?_)) | (refine awp_skip ?_; simp only [thenQ, blockQ]) | (refine awp_exit ?_; simp only [thenQ, blockQ, reduceIte, Nat.reduceEqDiff]) | (refine awp_region rfl ?_; simp only [hH1, e1', d1, List.length_map, thenQ, blockQ, RR, seval]) | (refine awpG_splitN (fun h => ?_) (fun h => ?_) <;> simp only [h, hH1, e1', d1, List.length_map, thenQ, blockQ, RR, seval]) | (refine awpG_split (fun h => ?_) (fun h => ?_) <;> simp only [h, hH1, e1', d1, List.length_map, thenQ, blockQ, RR, seval]) | (refine awp_if _ rfl (fun h => ?_) (fun h => ?_)) | (refine awp_ret ?_; simp only [thenQ, blockQ, bodyQ, aresult, ares, argF, hH1, e1', d1, List.length_map, RR, seval]; refine Gives.pure ?_))
        rfl
      | true =>
        rw [e2] at d1
        repeat' (first | (refine awp_seq_k fun K hK => ?_; refine awp_region rfl ?_; simp only [hH1, e1', d1, List.length_map, RR, seval]; refine hK _ _ ?_; clear hK K) | (refine awp_seq ?_) | (refine awp_block ?_) | (refine awp_if true rfl (fun _ => ?_) (fun hc => by cases hc)) | (refine awp_if false rfl (fun hc => by cases hc) (fun _ => ?_)) | (refine awp_skip ?_; simp only [thenQ, blockQ]) | (refine awp_exit ?_; simp only [thenQ, blockQ, reduceIte, Nat.reduceEqDiff]) | (refine awp_region rfl ?_; simp only [hH1, e1', d1, List.length_map, thenQ, blockQ, RR, seval]) | (refine awpG_splitN (fun h => ?_) (fun h => ?_) <;> simp only [h, hH1, e1', d1, List.length_map, thenQ, blockQ, RR, seval]) | (refine awpG_split (fun h => ?_) (fun h => ?_) <;> simp only [h, hH1, e1', d1, List.length_map, thenQ, blockQ, RR, seval]) | (refine awp_if _ rfl (fun h => ?_) (fun h => ?_)) | (refine awp_ret ?_; simp only [thenQ, blockQ, bodyQ, aresult, ares, argF, hH1, e1', d1, List.length_map, RR, seval]; refine Gives.pure ?_))
        rfl
theorem rCheck_con (p : Pg) (hp : p.few) (h1 : 1 ≤ p.funs.length) : PCon env 43 [p.av] (.int .i64 (checkI p)) := by
  have hnames := names16_con p hp
  have hnums := fun h => numbers16_con p hp h h1
  have hC : checkI p = if namesB p then (if numsB p then 0 else 1) else 4 := rfl
  simp only [Pg.av, Pg.row] at hnames hnums ⊢
  generalize checkI p = res at *
  refine con_of 9 [.tmp 2] Try.func43 rfl rfl rfl rfl ?_
  refine awp_cutK (fun fr H => ∃ b, fr 1 = .ptr 3 b 0 0 ∧ H b = some (.rows 3 [[.isl 1 (p.vars.map strRow), .isl 2 (p.arrs.map Ar.row), .isl 5 (p.funs.map Fu.row)]])) (fun K hK => ?_) ?_
  · refine awp_region rfl ?_; simp only [RR, seval]
    refine awpN_intro fun b hb => ?_; simp only [RR, seval]
    exact hK _ _ ⟨b, rfl, upd_same _ _ _⟩
  rintro fr H ⟨b, f1, hb⟩
  refine awp_seq ?_
  refine awp_seq_k fun K hK => ?_; refine awp_region rfl ?_; simp only [RR, seval]
  simp only [f1, hb, RR, seval]
  refine awpC_pure' hnames ?_; simp only [RR, seval]
  refine hK _ _ ?_; clear hK K
  cases hn : namesB p with
  | false =>
    rw [hn] at hC
    repeat' (first | (refine awp_seq_k fun K hK => ?_; refine awp_region rfl ?_; simp only [hn, RR, seval]; refine hK _ _ ?_; clear hK K) | (refine awp_seq ?_) | (refine awp_block ?_) | (refine awp_if true rfl (fun _ => ?_) (fun hc => by cases hc)) | (refine awp_if false rfl (fun hc => by cases hc) (fun _ => ?_)) | (refine awp_skip ?_; simp only [thenQ, blockQ]) | (refine awp_exit ?_; simp only [thenQ, blockQ, reduceIte, Nat.reduceEqDiff]) | (refine awp_region rfl ?_; simp only [hn, thenQ, blockQ, RR, seval]) | (refine awpG_splitN (fun h => ?_) (fun h => ?_) <;> simp only [h, hn, thenQ, blockQ, RR, seval]) | (refine awpG_split (fun h => ?_) (fun h => ?_) <;> simp only [h, hn, thenQ, blockQ, RR, seval]) | (refine awp_if _ rfl (fun h => ?_) (fun h => ?_)) | (refine awp_ret ?_; simp only [thenQ, blockQ, bodyQ, aresult, ares, argF, hn, RR, seval]; refine Gives.pure ?_))
    rw [hC]; rfl
  | true =>
    rw [hn] at hC
    refine awp_if false (by simp [upd, ev, hn]) (fun hc => by cases hc) (fun _ => ?_)
    refine awp_skip ?_; simp only [thenQ, blockQ]
    refine awp_seq ?_
    refine awp_seq_k fun K hK => ?_; refine awp_region rfl ?_; simp only [RR, seval]
    simp only [f1, hb, RR, seval]
    refine awpC_pure' (hnums hn) ?_; simp only [RR, seval]
    refine hK _ _ ?_; clear hK K
    cases hm : numsB p with
    | false =>
      rw [hm] at hC
      repeat' (first | (refine awp_seq_k fun K hK => ?_; refine awp_region rfl ?_; simp only [hm, RR, seval]; refine hK _ _ ?_; clear hK K) | (refine awp_seq ?_) | (refine awp_block ?_) | (refine awp_if true rfl (fun _ => ?_) (fun hc => by cases hc)) | (refine awp_if false rfl (fun hc => by cases hc) (fun _ => ?_)) | (refine awp_skip ?_; simp only [thenQ, blockQ]) | (refine awp_exit ?_; simp only [thenQ, blockQ, reduceIte, Nat.reduceEqDiff]) | (refine awp_region rfl ?_; simp only [hm, thenQ, blockQ, RR, seval]) | (refine awpG_splitN (fun h => ?_) (fun h => ?_) <;> simp only [h, hm, thenQ, blockQ, RR, seval]) | (refine awpG_split (fun h => ?_) (fun h => ?_) <;> simp only [h, hm, thenQ, blockQ, RR, seval]) | (refine awp_if _ rfl (fun h => ?_) (fun h => ?_)) | (refine awp_ret ?_; simp only [thenQ, blockQ, bodyQ, aresult, ares, argF, hm, RR, seval]; refine Gives.pure ?_))
      rw [hC]; rfl
    | true =>
      rw [hm] at hC
      repeat' (first | (refine awp_seq_k fun K hK => ?_; refine awp_region rfl ?_; simp only [hm, RR, seval]; refine hK _ _ ?_; clear hK K) | (refine awp_seq ?_) | (refine awp_block ?_) | (refine awp_if true rfl (fun _ => ?_) (fun hc => by cases hc)) | (refine awp_if false rfl (fun hc => by cases hc) (fun _ => ?_)) | (refine awp_skip ?_; simp only [thenQ, blockQ]) | (refine awp_exit ?_; simp only [thenQ, blockQ, reduceIte, Nat.reduceEqDiff]) | (refine awp_region rfl ?_; simp only [hm, thenQ, blockQ, RR, seval]) | (refine awpG_splitN (fun h => ?_) (fun h => ?_) <;> simp only [h, hm, thenQ, blockQ, RR, seval]) | (refine awpG_split (fun h => ?_) (fun h => ?_) <;> simp only [h, hm, thenQ, blockQ, RR, seval]) | (refine awp_if _ rfl (fun h => ?_) (fun h => ?_)) | (refine awp_ret ?_; simp only [thenQ, blockQ, bodyQ, aresult, ares, argF, hm, RR, seval]; refine Gives.pure ?_))
      rw [hC]; rfl
end Go.Proofs.Ytlokndnkpleegaa
