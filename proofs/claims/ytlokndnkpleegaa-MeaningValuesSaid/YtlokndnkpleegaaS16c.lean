/- Chapter 16, the judge's: are names right, are numbers? -/
import Derived.Test.YtlokndnkpleegaaS16b
set_option linter.unusedSimpArgs false
set_option linter.unusedVariables false
set_option maxRecDepth 10000
namespace Go.Al
theorem getU {l : List Us} {i : Nat} {u : Us} (h : l[i]? = some u) : (l.map Us.row)[i]? = some [.str u.name, .int .i64 u.kind, .int .i64 u.num] := getRow _ h
/-- the number of arguments of a call is right -/
def numU (p : Pg) (i : Nat) (u : Us) : Bool := !decide (u.kind = 4) || (match p.funs[(findF p i u.name).2.toNat]? with | some g => decide ((g.params.length : Int) = u.num) | none => false)
def numsFrom (p : Pg) : Nat → List Fu → Bool
  | _, [] => true
  | i, f :: l => (usesS f.body).all (numU p i) && numsFrom p (i + 1) l
def mainS : Str := [109, 97, 105, 110]
def lastB (p : Pg) : Bool := match p.funs[p.funs.length - 1]? with | some g => decide (g.name = mainS) && decide (g.params.length = 0) && !g.word | none => false
def numsB (p : Pg) : Bool := numsFrom p 0 p.funs && lastB p
def checkI (p : Pg) : Int := if namesB p then (if numsB p then 0 else 1) else 4
theorem namesFrom_get (p : Pg) : ∀ (l : List Fu) (i : Nat), namesFrom p i l = true → ∀ (j : Nat) f, l[j]? = some f → (namesL f).Nodup ∧ (usesS f.body).all (okUse p (i + j)) = true
  | [], i, _, j, f, hf => by simp at hf
  | g :: l, i, h, j, f, hf => by
    simp only [namesFrom, Bool.and_eq_true, decide_eq_true_eq] at h
    cases j with
    | zero => simp at hf; subst hf; exact h.1
    | succ j =>
      have := namesFrom_get p l (i + 1) h.2 j f (by simpa using hf)
      rwa [show i + 1 + j = i + (j + 1) by omega] at this
theorem findF_call (p : Pg) (i : Nat) (s : Str) (h : (findF p i s).1 = 4) : 0 ≤ (findF p i s).2 ∧ (findF p i s).2 < p.funs.length := by
  unfold findF at *
  split at h
  · exact absurd h (by simp)
  · rename_i hn
    unfold findG at *
    split at h
    · exact absurd h (by decide)
    · rename_i k hk
      split at h
      · exact absurd h (by simp)
      · rename_i c1
        split at h
        · exact absurd h (by simp)
        · rename_i c2
          have := (placeN_lt _ _ _ hk).1
          rw [globL_len] at this
          rw [if_neg c1, if_neg c2]
          simp only; omega
end Go.Al
namespace Go.Proofs.Ytlokndnkpleegaa
open Go.Al
set_option maxHeartbeats 4000000 in
theorem names16_con (p : Pg) (hp : p.few) : PCon env 58 [p.av] (.bool (namesB p)) := by
  have hok := hp.ok
  have ga := hp.f
  have hglob := Globals_con p hp
  have hun := unlike_con (globL p) (by have := hp.gl; simp only [fitL]; omega)
  have hfind := fun i hi s => Find_con p hp i hi s
  have hbd := fun i s => findF_bd p i s (by have := hp.gl; omega) (fun f hf => by have := hp.nl f hf; omega)
  have hN : namesB p = (decide (globL p).Nodup && namesFrom p 0 p.funs) := rfl
  have hok2 : ∀ (i : Nat) (u : Us), okUse p i u = !((decide (u.kind = 1) && !decide ((findF p i u.name).1 = 1) && !decide ((findF p i u.name).1 = 2)) || (decide (u.kind = 3) && !decide ((findF p i u.name).1 = 3)) || (decide (u.kind = 4) && (!decide ((findF p i u.name).1 = 4) || decide ((i : Int) ≤ (findF p i u.name).2)))) := fun _ _ => rfl
  have hstep : ∀ (i : Nat) (f : Fu) (l : List Fu), namesFrom p i (f :: l) = (decide (namesL f).Nodup && (usesS f.body).all (okUse p i) && namesFrom p (i + 1) l) := fun _ _ _ => rfl
  have hfs := hp.fs
  have hokf := hok.funs
  have hnil : ∀ i : Nat, namesFrom p i [] = true := fun _ => rfl
  generalize findF p = FF at *
  generalize namesFrom p = NF at *
  generalize okUse p = OU at *
  generalize globL p = G at *
  generalize namesB p = res at hN ⊢
  obtain ⟨vs, aa, fs⟩ := p
  simp only [Pg.av, Pg.row] at hglob hfind ⊢
  simp only at ga hfs hokf hN
  refine con_of 94 [.tmp 2] Try.func58 rfl rfl rfl rfl ?_
  refine awp_cutK (fun fr H => ∃ b, fr 1 = .ptr 3 b 0 0 ∧ H b = some (.rows 3 [[.isl 1 (vs.map strRow), .isl 2 (aa.map Ar.row), .isl 5 (fs.map Fu.row)]])) (fun K hK => ?_) ?_
  · refine awp_region rfl ?_; simp only [RR, seval]
    refine awpN_intro fun b hb => ?_; simp only [RR, seval]
    exact hK _ _ ⟨b, rfl, upd_same _ _ _⟩
  rintro fr H ⟨b, f1, hb⟩
  refine awp_seq ?_
  refine awp_seq_k fun K hK => ?_; refine awp_region rfl ?_; simp only [RR, seval]
  simp only [f1, hb, RR, seval]
  refine awpC_pure' hglob ?_; simp only [RR, seval]
  refine awpC_pure' hun ?_; simp only [RR, seval]
  refine hK _ _ ?_; clear hK K
  refine awp_if (!decide G.Nodup) rfl (fun hc => ?_) (fun hc => ?_)
  · repeat' (first | (refine awp_seq_k fun K hK => ?_; refine awp_region rfl ?_; simp only [f1, RR, seval]; refine hK _ _ ?_; clear hK K) | (refine awp_seq ?_) | (refine awp_block ?_) | (refine awp_if true rfl (fun _ => ?_) (fun hc => by cases hc)) | (refine awp_if false rfl (fun hc => by cases hc) (fun _ => ?_)) | (refine awp_skip ?_; simp only [thenQ, blockQ]) | (refine awp_exit ?_; simp only [thenQ, blockQ, reduceIte, Nat.reduceEqDiff]) | (refine awp_region rfl ?_; simp only [f1, thenQ, blockQ, RR, seval]) | (refine awpG_splitN (fun h => ?_) (fun h => ?_) <;> simp only [h, f1, thenQ, blockQ, RR, seval]) | (refine awpG_split (fun h => ?_) (fun h => ?_) <;> simp only [h, f1, thenQ, blockQ, RR, seval]) | (refine awp_if _ rfl (fun h => ?_) (fun h => ?_)) | (refine awp_ret ?_; simp only [thenQ, blockQ, bodyQ, aresult, ares, argF, f1, RR, seval]; refine Gives.pure ?_))
    rw [hN, show decide G.Nodup = false by simpa using hc]; rfl
  rw [show decide G.Nodup = true by simpa using hc, Bool.true_and] at hN
  refine awp_skip ?_; simp only [thenQ, blockQ]
  refine awp_cutK (fun fr H => res = true) (fun K hK => ?_) ?_
  · refine awp_seq_k fun K hK => ?_; refine awp_region rfl ?_; simp only [RR, seval]
    refine hK _ _ ?_; clear hK K
    refine awp_block ?_
    refine awp_loopK (fun mm fr H => ∃ k : Nat, mm = fs.length - k ∧ k ≤ fs.length ∧ fr 3 = .int .i64 k ∧ fr 1 = .ptr 3 b 0 0 ∧ H b = some (.rows 3 [[.isl 1 (vs.map strRow), .isl 2 (aa.map Ar.row), .isl 5 (fs.map Fu.row)]]) ∧ res = NF k (fs.drop k)) (fs.length) ⟨0, rfl, Nat.zero_le _, rfl, f1, hb, by rw [List.drop_zero]; exact hN⟩ ?_
    rintro mm fr H ⟨k, rfl, hkk, hik, f1, hb, hall⟩ K2 hK2
    refine awp_seq ?_
    refine awp_seq_k fun K hK => ?_; refine awp_region rfl ?_; simp only [RR, seval]
    simp only [hik, f1, hb,List.length_map, RR, seval]
    refine hK _ _ ?_; clear hK K
    refine awp_if _ rfl (fun hc => ?_) (fun hc => ?_)
    · have hltk : k < fs.length := by have := of_decide_eq_true hc; omega
      clear hc
      refine awp_skip ?_; simp only [thenQ, blockQ]
      refine awp_seq ?_
      refine awp_block ?_
      have hg := getF (List.getElem?_eq_getElem hltk)
      have hfsk := hfs _ (List.getElem_mem hltk)
      have hokk := hokf _ (List.getElem_mem hltk)
      rw [List.drop_eq_getElem_cons hltk, hstep] at hall
      generalize fs[k] = g at hg hfsk hokk hall
      have hnm := Names_con g (by omega) (by omega)
      have hun := unlike_con (namesL g) (by simp only [fitL, namesL, List.length_append]; omega)
      have hus := Uses_con _ g.body rfl (by omega) hokk.body
      have hul := usesS_len _ g.body rfl
      refine awp_seq ?_
      refine awp_seq_k fun K hK => ?_; refine awp_region rfl ?_; simp only [RR, seval]
      simp only [f1, hb, hik, hg, RR, seval]
      refine awpC_pure' hnm ?_; simp only [RR, seval]
      refine awpC_pure' hun ?_; simp only [RR, seval]
      refine hK _ _ ?_; clear hK K
      refine awp_if (!decide (namesL g).Nodup) rfl (fun hc => ?_) (fun hc => ?_)
      · repeat' (first | (refine awp_seq_k fun K hK => ?_; refine awp_region rfl ?_; simp only [f1, RR, seval]; refine hK _ _ ?_; clear hK K) | (refine awp_seq ?_) | (refine awp_block ?_) | (refine awp_if true rfl (fun _ => ?_) (fun hc => by cases hc)) | (refine awp_if false rfl (fun hc => by cases hc) (fun _ => ?_)) | (refine awp_skip ?_; simp only [thenQ, blockQ]) | (refine awp_exit ?_; simp only [thenQ, blockQ, reduceIte, Nat.reduceEqDiff]) | (refine awp_region rfl ?_; simp only [f1, thenQ, blockQ, RR, seval]) | (refine awpG_splitN (fun h => ?_) (fun h => ?_) <;> simp only [h, f1, thenQ, blockQ, RR, seval]) | (refine awpG_split (fun h => ?_) (fun h => ?_) <;> simp only [h, f1, thenQ, blockQ, RR, seval]) | (refine awp_if _ rfl (fun h => ?_) (fun h => ?_)) | (refine awp_ret ?_; simp only [thenQ, blockQ, bodyQ, aresult, ares, argF, f1, RR, seval]; refine Gives.pure ?_))
        rw [hall, show decide (namesL g).Nodup = false by simpa using hc]; rfl
      rw [show decide (namesL g).Nodup = true by simpa using hc, Bool.true_and] at hall
      refine awp_skip ?_; simp only [thenQ, blockQ]
      refine awp_seq_k fun K hK => ?_; refine awp_region rfl ?_; simp only [RR, seval]
      simp only [f1, hb, hik, hg, RR, seval]
      refine awpC_pure' hus ?_; simp only [RR, seval]
      refine hK _ _ ?_; clear hK K
      generalize usesS g.body = us at hall hul
      refine awp_seq_k fun K hK => ?_; refine awp_region rfl ?_; simp only [RR, seval]
      refine hK _ _ ?_; clear hK K
      refine awp_block ?_
      refine awp_loopK (fun mm fr H => ∃ j : Nat, mm = us.length - j ∧ j ≤ us.length ∧ fr 5 = .int .i64 j ∧ fr 1 = .ptr 3 b 0 0 ∧ H b = some (.rows 3 [[.isl 1 (vs.map strRow), .isl 2 (aa.map Ar.row), .isl 5 (fs.map Fu.row)]]) ∧ fr 3 = .int .i64 k ∧ fr 4 = .isl 3 (us.map Us.row) ∧ us.all (OU k) = (us.drop j).all (OU k)) (us.length) ⟨0, rfl, Nat.zero_le _, rfl, f1, hb, hik, rfl, by rw [List.drop_zero]⟩ ?_
      rintro mm fr H ⟨j, rfl, hkj, hij, f1, hb, hik, f4, hua⟩ K3 hK3
      refine awp_seq ?_
      refine awp_seq_k fun K hK => ?_; refine awp_region rfl ?_; simp only [RR, seval]
      simp only [hij, f4,List.length_map, RR, seval]
      refine hK _ _ ?_; clear hK K
      refine awp_if _ rfl (fun hc => ?_) (fun hc => ?_)
      · have hltj : j < us.length := by have := of_decide_eq_true hc; omega
        clear hc
        refine awp_skip ?_; simp only [thenQ, blockQ]
        refine awp_seq ?_
        refine awp_block ?_
        have hgu := getU (List.getElem?_eq_getElem hltj)
        rw [List.drop_eq_getElem_cons hltj, List.all_cons] at hua
        generalize us[j] = u at hgu hua
        have hfn := hfind k hltk u.name
        have hbk := hbd k u.name
        have hou := hok2 k u
        generalize FF k u.name = r at hfn hbk hou
        refine awp_seq_k fun K hK => ?_
        refine awp_region_draw (fun x => x ≠ b) [(0, true), (1, true), (2, true), (3, true), (4, true), (5, true), (6, true), (7, true), (8, true), (9, true), (10, true), (11, true), (12, true)] draws (by kernel_rfl) rfl ?_
        simp only [emit, markOf, f1, hb, hik, hij, f4, hgu, awpL_entry, touch_ptr, touch_ipt, RR, seval]
        refine awpC_pure' hfn ?_
        simp only [f1, hb, hik, hij, f4, hgu, awpL_entry, touch_ptr, touch_ipt, RR, seval]
        refine hK _ _ ?_; clear hK K
        refine awp_cutK (fun fr H => fr 93 = .bool (!OU k u) ∧ fr 1 = .ptr 3 b 0 0 ∧ H b = some (.rows 3 [[.isl 1 (vs.map strRow), .isl 2 (aa.map Ar.row), .isl 5 (fs.map Fu.row)]]) ∧ fr 3 = .int .i64 k ∧ fr 4 = .isl 3 (us.map Us.row) ∧ fr 5 = .int .i64 j) (fun K hK => ?_) ?_
        · refine awp_region rfl ?_; simp only [RR, seval]
          simp only [hik, hij, f4, hgu, RR, seval]
          repeat' ((first | refine awpG_splitN (fun h => ?_) (fun h => ?_) | refine awpG_split (fun h => ?_) (fun h => ?_)) <;> simp only [h, hik, hij, f4, hgu, RR, seval])
          all_goals
            refine hK _ _ ⟨?_, f1, hb, hik, f4, hij⟩
            clear hK hK2 hK3
            simp [upd, hou, *]
        · rintro fr H ⟨f93, f1, hb, hik, f4, hij⟩
          refine awp_if (!OU k u) f93 (fun hc => ?_) (fun hc => ?_)
          · repeat' (first | (refine awp_seq_k fun K hK => ?_; refine awp_region rfl ?_; simp only [f1, RR, seval]; refine hK _ _ ?_; clear hK K) | (refine awp_seq ?_) | (refine awp_block ?_) | (refine awp_if true rfl (fun _ => ?_) (fun hc => by cases hc)) | (refine awp_if false rfl (fun hc => by cases hc) (fun _ => ?_)) | (refine awp_skip ?_; simp only [thenQ, blockQ]) | (refine awp_exit ?_; simp only [thenQ, blockQ, reduceIte, Nat.reduceEqDiff]) | (refine awp_region rfl ?_; simp only [f1, thenQ, blockQ, RR, seval]) | (refine awpG_splitN (fun h => ?_) (fun h => ?_) <;> simp only [h, f1, thenQ, blockQ, RR, seval]) | (refine awpG_split (fun h => ?_) (fun h => ?_) <;> simp only [h, f1, thenQ, blockQ, RR, seval]) | (refine awp_if _ rfl (fun h => ?_) (fun h => ?_)) | (refine awp_ret ?_; simp only [thenQ, blockQ, bodyQ, aresult, ares, argF, f1, RR, seval]; refine Gives.pure ?_))
            rw [hall, hua, show OU k u = false by simpa using hc]; rfl
          · rw [show OU k u = true by simpa using hc, Bool.true_and] at hua
            refine awp_skip ?_; simp only [thenQ, blockQ]
            refine awp_region rfl ?_; simp only [RR, seval]
            simp only [hij, thenQ, blockQ, RR, seval]
            rw [IntWalk.i64_in _ (by omega)]
            refine hK3 (us.length - (j + 1)) _ _ (by omega) ⟨j + 1, rfl, by omega, rfl, f1, hb, hik, f4, hua⟩
      · refine awp_exit ?_; simp only [thenQ, blockQ, reduceIte, Nat.reduceEqDiff]
        have hknj : j = us.length := by have := of_decide_eq_false hc; omega
        clear hc
        subst hknj
        rw [List.drop_length] at hua
        rw [hua, List.all_nil, Bool.true_and] at hall
        try simp only [thenQ, blockQ]
        refine awp_region rfl ?_; simp only [RR, seval]
        simp only [hik, thenQ, blockQ, RR, seval]
        rw [IntWalk.i64_in _ (by omega)]
        refine hK2 (fs.length - (k + 1)) _ _ (by omega) ⟨k + 1, rfl, by omega, rfl, f1, hb, hall⟩
    · refine awp_exit ?_; simp only [thenQ, blockQ, reduceIte, Nat.reduceEqDiff]
      have hknk : k = fs.length := by have := of_decide_eq_false hc; omega
      clear hc
      subst hknk
      rw [List.drop_length, hnil] at hall
      exact hK _ _ hall
  · rintro fr H h0
    repeat' (first | (refine awp_seq_k fun K hK => ?_; refine awp_region rfl ?_; simp only [h0, RR, seval]; refine hK _ _ ?_; clear hK K) | (refine awp_seq ?_) | (refine awp_block ?_) | (refine awp_if true rfl (fun _ => ?_) (fun hc => by cases hc)) | (refine awp_if false rfl (fun hc => by cases hc) (fun _ => ?_)) | (refine awp_skip ?_; simp only [thenQ, blockQ]) | (refine awp_exit ?_; simp only [thenQ, blockQ, reduceIte, Nat.reduceEqDiff]) | (refine awp_region rfl ?_; simp only [h0, thenQ, blockQ, RR, seval]) | (refine awpG_splitN (fun h => ?_) (fun h => ?_) <;> simp only [h, h0, thenQ, blockQ, RR, seval]) | (refine awpG_split (fun h => ?_) (fun h => ?_) <;> simp only [h, h0, thenQ, blockQ, RR, seval]) | (refine awp_if _ rfl (fun h => ?_) (fun h => ?_)) | (refine awp_ret ?_; simp only [thenQ, blockQ, bodyQ, aresult, ares, argF, h0, RR, seval]; refine Gives.pure ?_))
    rfl
end Go.Proofs.Ytlokndnkpleegaa
