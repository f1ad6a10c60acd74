/- Chapter 16, the judge's: what a name is; are names right? -/
import Derived.Test.YtlokndnkpleegaaS16a
set_option linter.unusedSimpArgs false
set_option linter.unusedVariables false
set_option maxRecDepth 10000
namespace Go.Al
structure Pg.few (p : Pg) : Prop where
  ok : p.ok
  v : p.vars.length ≤ 10000
  a : p.arrs.length ≤ 10000
  f : p.funs.length ≤ 10000
  fs : ∀ f ∈ p.funs, f.params.length ≤ 10000 ∧ f.locs.length ≤ 1100000 ∧ szS f.body ≤ 1000000
theorem nodup_place : ∀ l : List Str, l.Nodup ↔ ∀ (i : Nat) (h : i < l.length), placeN l l[i] = some i
  | [] => by simp
  | x :: l => by
    rw [List.nodup_cons, nodup_place l]
    constructor
    · rintro ⟨h1, h2⟩ i hi
      cases i with
      | zero => simp [placeN]
      | succ i =>
        have hi' : i < l.length := by simpa using hi
        have hne : ¬ x = l[i] := fun e => h1 (e ▸ List.getElem_mem hi')
        simp only [List.getElem_cons_succ, placeN, if_neg hne, h2 i hi', Option.map_some]
    · intro h
      refine ⟨fun hx => ?_, fun i hi => ?_⟩
      · obtain ⟨i, hi, e⟩ := List.getElem_of_mem hx
        have := h (i + 1) (by simpa using hi)
        simp [placeN, e] at this
      · have := h (i + 1) (by simpa using hi)
        simp only [List.getElem_cons_succ, placeN] at this
        split at this
        · simp at this
        · rw [Option.map_eq_some_iff] at this
          obtain ⟨j, hj, e⟩ := this
          rw [hj]; congr 1; omega
def okUse (p : Pg) (i : Nat) (u : Us) : Bool :=
  !((decide (u.kind = 1) && !decide ((findF p i u.name).1 = 1) && !decide ((findF p i u.name).1 = 2)) || (decide (u.kind = 3) && !decide ((findF p i u.name).1 = 3)) ||
    (decide (u.kind = 4) && (!decide ((findF p i u.name).1 = 4) || decide ((i : Int) ≤ (findF p i u.name).2))))
def namesFrom (p : Pg) : Nat → List Fu → Bool
  | _, [] => true
  | i, f :: l => decide (namesL f).Nodup && (usesS f.body).all (okUse p i) && namesFrom p (i + 1) l
def namesB (p : Pg) : Bool := decide (globL p).Nodup && namesFrom p 0 p.funs
theorem globL_len (p : Pg) : (globL p).length = p.vars.length + p.arrs.length + p.funs.length := by simp [globL]; omega
theorem findG_bd (p : Pg) (s : Str) (h : (globL p).length ≤ 1000000) : -1 ≤ (findG p s).2 ∧ (findG p s).2 ≤ 1000000 ∧ 0 ≤ (findG p s).1 ∧ (findG p s).1 ≤ 4 := by
  unfold findG
  split
  · simp
  · rename_i k hk
    have := (placeN_lt _ _ _ hk).1
    split
    · simp only; omega
    · split <;> simp only <;> omega
theorem findF_bd (p : Pg) (i : Nat) (s : Str) (h : (globL p).length ≤ 1000000) (h2 : ∀ f ∈ p.funs, (namesL f).length ≤ 1200000) : -1 ≤ (findF p i s).2 ∧ (findF p i s).2 ≤ 1200000 ∧ 0 ≤ (findF p i s).1 ∧ (findF p i s).1 ≤ 4 := by
  unfold findF
  split
  · rename_i k hk
    rw [Option.bind_eq_some_iff] at hk
    obtain ⟨f, hf, hk⟩ := hk
    have := (placeN_lt _ _ _ hk).1
    have := h2 f (List.mem_of_getElem? hf)
    simp only; omega
  · have := findG_bd p s h
    exact ⟨this.1, by omega, this.2.2⟩
theorem Pg.few.gl {p : Pg} (h : p.few) : (globL p).length ≤ 30000 := by
  rw [globL_len]; have := h.v; have := h.a; have := h.f; omega
theorem Pg.few.nl {p : Pg} (h : p.few) : ∀ f ∈ p.funs, (namesL f).length ≤ 1200000 := fun f hf => by
  have := h.fs f hf; simp only [namesL, List.length_append]; omega
end Go.Al
namespace Go.Proofs.Ytlokndnkpleegaa
open Go.Al
theorem Globals_own (p : Pg) (hp : p.few) : MCon env 81 [p.av] 1 ((globL p).map strRow) := by
  have gv := hp.v
  have ga := hp.a
  have gf := hp.f
  have hG : globL p = p.vars ++ p.arrs.map Ar.name ++ p.funs.map Fu.name := rfl
  generalize globL p = G at hG ⊢
  obtain ⟨vs, aa, fs⟩ := p
  simp only at gv ga gf hG
  refine con_of 43 [.tmp 2] Try.func81 rfl rfl rfl rfl ?_
  simp only [Pg.av, Pg.row]
  refine awp_cutK (fun fr H => ∃ b, fr 1 = .ptr 3 b 0 0 ∧ H b = some (.rows 3 [[.isl 1 (vs.map strRow), .isl 2 (aa.map Ar.row), .isl 5 (fs.map Fu.row)]])) (fun K hK => ?_) ?_
  · refine awp_region rfl ?_; simp only [RR, seval]
    refine awpN_intro fun b hb => ?_; simp only [RR, seval]
    exact hK _ _ ⟨b, rfl, upd_same _ _ _⟩
  rintro fr H ⟨b, f1, hb⟩
  refine awp_cutK (fun fr H => OwnO 1 (fr 3) (vs.map strRow) H ∧ fr 1 = .ptr 3 b 0 0 ∧ H b = some (.rows 3 [[.isl 1 (vs.map strRow), .isl 2 (aa.map Ar.row), .isl 5 (fs.map Fu.row)]])) (fun K hK => ?_) ?_
  · refine awp_region rfl ?_
    simp only [f1, hb, RR, seval]
    refine awpB_own fun b0 hb0 => ?_
    have hne : b ≠ b0 := fun e => by rw [e, hb0] at hb; cases hb
    have hb' : (upd H b0 (some (.rows 1 []))) b = some (.rows 3 [[.isl 1 (vs.map strRow), .isl 2 (aa.map Ar.row), .isl 5 (fs.map Fu.row)]]) := by simp only [upd, if_neg hne, hb]
    have hown : OwnO 1 (.osl 1 b0 0) [] (upd H b0 (some (.rows 1 []))) := ⟨b0, rfl, upd_same _ _ _⟩
    generalize upd H b0 (some (.rows 1 [])) = H1 at hb' hown ⊢
    simp only [f1, hb', oneN, RR, seval]
    refine awpA_ownO hown (by simp only [List.length_nil, List.length_map]; omega) (fun _ _ => trivial) fun v2 H2 hv2 hk2 => ?_
    simp only [RR, seval]
    exact hK _ _ ⟨hv2, f1, hk2 b _ hb' (hown.nb' hb' (by decide))⟩
  rintro fr H ⟨hown, f1, hb⟩
  refine awp_cutK (fun fr H => OwnO 1 (fr 3) ((vs ++ aa.map Ar.name).map strRow) H ∧ fr 1 = .ptr 3 b 0 0 ∧ H b = some (.rows 3 [[.isl 1 (vs.map strRow), .isl 2 (aa.map Ar.row), .isl 5 (fs.map Fu.row)]])) (fun K hK => ?_) ?_
  · refine awp_seq_k fun K hK => ?_; refine awp_region rfl ?_; simp only [RR, seval]
    refine hK _ _ ?_; clear hK K
    refine awp_block ?_
    refine awp_loopK (fun mm fr H => ∃ k : Nat, mm = aa.length - k ∧ k ≤ aa.length ∧ fr 4 = .int .i64 k ∧ OwnO 1 (fr 3) ((vs ++ (aa.take k).map Ar.name).map strRow) H ∧ fr 1 = .ptr 3 b 0 0 ∧ H b = some (.rows 3 [[.isl 1 (vs.map strRow), .isl 2 (aa.map Ar.row), .isl 5 (fs.map Fu.row)]])) (aa.length) ⟨0, rfl, Nat.zero_le _, rfl, by simpa [upd] using hown, f1, hb⟩ ?_
    rintro mm fr H ⟨k, rfl, hkk, hik, hown, f1, hb⟩ K2 hK2
    refine awp_seq ?_
    refine awp_seq_k fun K hK => ?_; refine awp_region rfl ?_; simp only [RR, seval]
    simp only [hik, f1, hb,List.length_map, RR, seval]
    refine hK _ _ ?_; clear hK K
    refine awp_if _ rfl (fun hc => ?_) (fun hc => ?_)
    · have hltk : k < aa.length := by have := of_decide_eq_true hc; omega
      clear hc
      refine awp_skip ?_; simp only [thenQ, blockQ]
      refine awp_seq ?_
      refine awp_block ?_
      have hg := getA (List.getElem?_eq_getElem hltk)
      have htk : aa.take (k + 1) = aa.take k ++ [aa[k]] := List.take_succ_eq_append_getElem hltk
      generalize aa[k] = a at hg htk
      have htk2 : (vs ++ (aa.take (k + 1)).map Ar.name).map strRow = (vs ++ (aa.take k).map Ar.name).map strRow ++ [[.str a.name]] := by rw [htk]; simp [strRow]
      refine awp_region rfl ?_
      simp only [f1, hb, hik, hg, RR, seval]
      refine awpB_sealed ?_
      simp only [RR, seval]
      refine awpA_ownO hown (by simp only [List.length_map, List.length_append, List.length_cons, List.length_nil, List.length_take]; omega) (fun _ _ => trivial) fun v2 H2 hv2 hk2 => ?_
      simp only [thenQ, blockQ, RR, seval]
      have hb2 := hk2 b _ hb (hown.nb' hb (by decide))
      refine awp_region rfl ?_; simp only [RR, seval]
      simp only [hik, thenQ, blockQ, RR, seval]
      rw [IntWalk.i64_in _ (by omega)]
      refine hK2 (aa.length - (k + 1)) _ _ (by omega) ⟨k + 1, rfl, by omega, rfl, by rw [htk2]; exact hv2, f1, hb2⟩
    · refine awp_exit ?_; simp only [thenQ, blockQ, reduceIte, Nat.reduceEqDiff]
      have hknk : k = aa.length := by have := of_decide_eq_false hc; omega
      clear hc
      subst hknk
      rw [List.take_length] at hown
      exact hK _ _ ⟨hown, f1, hb⟩
  rintro fr H ⟨hown, f1, hb⟩
  refine awp_cutK (fun fr H => OwnO 1 (fr 3) (G.map strRow) H) (fun K hK => ?_) ?_
  · refine awp_seq_k fun K hK => ?_; refine awp_region rfl ?_; simp only [RR, seval]
    refine hK _ _ ?_; clear hK K
    refine awp_block ?_
    refine awp_loopK (fun mm fr H => ∃ k : Nat, mm = fs.length - k ∧ k ≤ fs.length ∧ fr 5 = .int .i64 k ∧ OwnO 1 (fr 3) ((vs ++ aa.map Ar.name ++ (fs.take k).map Fu.name).map strRow) H ∧ fr 1 = .ptr 3 b 0 0 ∧ H b = some (.rows 3 [[.isl 1 (vs.map strRow), .isl 2 (aa.map Ar.row), .isl 5 (fs.map Fu.row)]])) (fs.length) ⟨0, rfl, Nat.zero_le _, rfl, by simpa [upd] using hown, f1, hb⟩ ?_
    rintro mm fr H ⟨k, rfl, hkk, hik, hown, f1, hb⟩ K2 hK2
    refine awp_seq ?_
    refine awp_seq_k fun K hK => ?_; refine awp_region rfl ?_; simp only [RR, seval]
    simp only [hik, f1, hb,List.length_map, RR, seval]
    refine hK _ _ ?_; clear hK K
    refine awp_if _ rfl (fun hc => ?_) (fun hc => ?_)
    · have hltk : k < fs.length := by have := of_decide_eq_true hc; omega
      clear hc
      refine awp_skip ?_; simp only [thenQ, blockQ]
      refine awp_seq ?_
      refine awp_block ?_
      have hg := getF (List.getElem?_eq_getElem hltk)
      have htk : fs.take (k + 1) = fs.take k ++ [fs[k]] := List.take_succ_eq_append_getElem hltk
      generalize fs[k] = a at hg htk
      have htk2 : (vs ++ aa.map Ar.name ++ (fs.take (k + 1)).map Fu.name).map strRow = (vs ++ aa.map Ar.name ++ (fs.take k).map Fu.name).map strRow ++ [[.str a.name]] := by rw [htk]; simp [strRow]
      refine awp_region rfl ?_
      simp only [f1, hb, hik, hg, RR, seval]
      refine awpB_sealed ?_
      simp only [RR, seval]
      refine awpA_ownO hown (by simp only [List.length_map, List.length_append, List.length_cons, List.length_nil, List.length_take]; omega) (fun _ _ => trivial) fun v2 H2 hv2 hk2 => ?_
      simp only [thenQ, blockQ, RR, seval]
      have hb2 := hk2 b _ hb (hown.nb' hb (by decide))
      refine awp_region rfl ?_; simp only [RR, seval]
      simp only [hik, thenQ, blockQ, RR, seval]
      rw [IntWalk.i64_in _ (by omega)]
      refine hK2 (fs.length - (k + 1)) _ _ (by omega) ⟨k + 1, rfl, by omega, rfl, by rw [htk2]; exact hv2, f1, hb2⟩
    · refine awp_exit ?_; simp only [thenQ, blockQ, reduceIte, Nat.reduceEqDiff]
      have hknk : k = fs.length := by have := of_decide_eq_false hc; omega
      clear hc
      subst hknk
      rw [List.take_length, ← hG] at hown
      exact hK _ _ hown
  rintro fr H hown
  refine awp_seq_k fun K hK => ?_; refine awp_region rfl ?_; simp only [RR, seval]
  refine hK _ _ ?_; clear hK K
  refine awp_ret ?_
  simp only [thenQ, blockQ, bodyQ, aresult, ares, argF, RR, seval]
  exact MCon.gives hown.own
theorem Globals_con (p : Pg) (hp : p.few) : PCon env 81 [p.av] (.isl 1 ((globL p).map strRow)) := (Globals_own p hp).pure
theorem Find_con (p : Pg) (hp : p.few) (i : Nat) (hi : i < p.funs.length) (s : Str) : PCon env 54 [p.av, .int .i64 i, .str s] (.tup [.int .i64 (findF p i s).1, .int .i64 (findF p i s).2]) := by
  have gv := hp.v
  have ga := hp.a
  have gf := hp.f
  have hgl := globL_len p
  have hglob := Globals_con p hp
  have hplace := place_con (globL p) s (by simp only [fitL]; omega)
  have hgi := List.getElem?_eq_getElem hi
  have hfs := hp.fs _ (List.getElem_mem hi)
  have hF : findF p i s = match placeN (namesL p.funs[i]) s with | some k => (1, (k : Int)) | none => findG p s := by
    simp only [findF, hgi, Option.bind_some]
    all_goals (cases placeN (namesL p.funs[i]) s <;> rfl)
  have hGd : findG p s = match placeN (globL p) s with
    | none => (0, -1)
    | some k => if k < p.vars.length then (2, (k : Int)) else if k - p.vars.length < p.arrs.length then (3, ((k - p.vars.length : Nat) : Int)) else (4, ((k - p.vars.length - p.arrs.length : Nat) : Int)) := rfl
  have hnm := Names_con p.funs[i] (by omega) (by omega)
  have hpl := place_con (namesL p.funs[i]) s (by simp only [fitL, namesL, List.length_append]; omega)
  generalize p.funs[i] = g at hgi hF hnm hpl
  have hlen := fun k hk => (placeN_lt (globL p) s k hk).1
  generalize findF p i s = res at hF ⊢
  generalize globL p = G at *
  obtain ⟨vs, aa, fs⟩ := p
  simp only [Pg.av, Pg.row] at hglob ⊢
  simp only at gv ga gf hgi hgl hGd hi
  have hrow := getF hgi
  refine con_of 58 [.tmp 6, .tmp 7] Try.func54 rfl rfl rfl rfl ?_
  refine awp_cutK (fun fr H => ∃ b, fr 1 = .int .i64 i ∧ fr 2 = .str s ∧ fr 3 = .ptr 3 b 0 0 ∧ H b = some (.rows 3 [[.isl 1 (vs.map strRow), .isl 2 (aa.map Ar.row), .isl 5 (fs.map Fu.row)]])) (fun K hK => ?_) ?_
  · refine awp_region rfl ?_; simp only [RR, seval]
    refine awpN_intro fun b hb => ?_; simp only [RR, seval]
    exact hK _ _ ⟨b, rfl, rfl, rfl, upd_same _ _ _⟩
  rintro fr H ⟨b, f1, f2, f3, hb⟩
  have e1 : decide ((i : Int) < fs.length) = true := decide_eq_true (by omega)
  refine awp_cutK (fun fr H => res = findG ⟨vs, aa, fs⟩ s ∧ fr 2 = .str s ∧ fr 3 = .ptr 3 b 0 0 ∧ H b = some (.rows 3 [[.isl 1 (vs.map strRow), .isl 2 (aa.map Ar.row), .isl 5 (fs.map Fu.row)]])) (fun K hK => ?_) ?_
  · refine awp_seq_k fun K hK => ?_; refine awp_region rfl ?_; simp only [RR, seval]
    simp only [f1, f3, hb, List.length_map, e1, RR, seval]
    refine hK _ _ ?_; clear hK K
    refine awp_if true rfl (fun _ => ?_) (fun hc => by cases hc)
    refine awp_seq_k fun K hK => ?_; refine awp_region rfl ?_; simp only [RR, seval]
    simp only [f1, f2, f3, hb, hrow, RR, seval]
    refine awpC_pure' hnm ?_; simp only [RR, seval]
    simp only [f1, f2, f3, hb, hrow, RR, seval]
    refine awpC_pure' hpl ?_; simp only [RR, seval]
    refine hK _ _ ?_; clear hK K
    cases hpn : placeN (namesL g) s with
    | some k =>
      rw [hpn] at hF
      refine awp_seq_k fun K hK => ?_; refine awp_region rfl ?_; simp only [RR, seval]
      simp only [hpn, optI, RR, seval]
      refine hK _ _ ?_; clear hK K
      refine awp_if true rfl (fun _ => ?_) (fun hc => by cases hc)
      repeat' (first | (refine awp_seq_k fun K hK => ?_; refine awp_region rfl ?_; simp only [hpn, optI, RR, seval]; refine hK _ _ ?_; clear hK K) | (refine awp_seq ?_) | (refine awp_block ?_) | (refine awp_if true rfl (fun _ => ?_) (fun hc => by cases hc)) | (refine awp_if false rfl (fun hc => by cases hc) (fun _ => ?_)) | (refine awp_skip ?_; simp only [thenQ, blockQ]) | (refine awp_exit ?_; simp only [thenQ, blockQ, reduceIte, Nat.reduceEqDiff]) | (refine awp_region rfl ?_; simp only [hpn, optI, thenQ, blockQ, RR, seval]) | (refine awpG_splitN (fun h => ?_) (fun h => ?_) <;> simp only [h, hpn, optI, thenQ, blockQ, RR, seval]) | (refine awpG_split (fun h => ?_) (fun h => ?_) <;> simp only [h, hpn, optI, thenQ, blockQ, RR, seval]) | (refine awp_if _ rfl (fun h => ?_) (fun h => ?_)) | (refine awp_ret ?_; simp only [thenQ, blockQ, bodyQ, aresult, ares, argF, hpn, optI, RR, seval]; refine Gives.pure ?_))
      rw [hF]
    | none =>
      rw [hpn] at hF
      refine awp_seq_k fun K hK => ?_; refine awp_region rfl ?_; simp only [RR, seval]
      simp only [hpn, optI, RR, seval]
      refine hK _ _ ?_; clear hK K
      refine awp_if false rfl (fun hc => by cases hc) (fun _ => ?_)
      refine awp_skip ?_; simp only [thenQ, blockQ]
      exact hK _ _ ⟨hF, f2, f3, hb⟩
  rintro fr H ⟨hres, f2, f3, hb⟩
  rw [hGd] at hres
  refine awp_seq_k fun K hK => ?_; refine awp_region rfl ?_; simp only [RR, seval]
  simp only [f2, f3, hb, RR, seval]
  refine awpC_pure' hglob ?_; simp only [RR, seval]
  simp only [f2, f3, hb, RR, seval]
  refine awpC_pure' hplace ?_; simp only [RR, seval]
  refine hK _ _ ?_; clear hK K
  cases hpn : placeN G s with
  | none =>
    rw [hpn] at hres
    repeat' (first | (refine awp_seq_k fun K hK => ?_; refine awp_region rfl ?_; simp only [hpn, optI, RR, seval]; refine hK _ _ ?_; clear hK K) | (refine awp_seq ?_) | (refine awp_block ?_) | (refine awp_if true rfl (fun _ => ?_) (fun hc => by cases hc)) | (refine awp_if false rfl (fun hc => by cases hc) (fun _ => ?_)) | (refine awp_skip ?_; simp only [thenQ, blockQ]) | (refine awp_exit ?_; simp only [thenQ, blockQ, reduceIte, Nat.reduceEqDiff]) | (refine awp_region rfl ?_; simp only [hpn, optI, thenQ, blockQ, RR, seval]) | (refine awpG_splitN (fun h => ?_) (fun h => ?_) <;> simp only [h, hpn, optI, thenQ, blockQ, RR, seval]) | (refine awpG_split (fun h => ?_) (fun h => ?_) <;> simp only [h, hpn, optI, thenQ, blockQ, RR, seval]) | (refine awp_if _ rfl (fun h => ?_) (fun h => ?_)) | (refine awp_ret ?_; simp only [thenQ, blockQ, bodyQ, aresult, ares, argF, hpn, optI, RR, seval]; refine Gives.pure ?_))
    rw [hres]
  | some k =>
    rw [hpn] at hres
    simp only at hres
    have hk := hlen k hpn
    have w1 : IntKind.wrap .i64 ((k : Int) - vs.length) = (k : Int) - vs.length := IntWalk.i64_in _ (by omega)
    have w2 : IntKind.wrap .i64 ((k : Int) - vs.length - aa.length) = (k : Int) - vs.length - aa.length := IntWalk.i64_in _ (by omega)
    have d0 : decide ((k : Int) < 0) = false := decide_eq_false (by omega)
    by_cases c1 : k < vs.length
    · have d1 : decide ((k : Int) < vs.length) = true := decide_eq_true (by omega)
      repeat' (first | (refine awp_seq_k fun K hK => ?_; refine awp_region rfl ?_; simp only [hpn, optI, f3, hb, d0, d1, List.length_map, RR, seval]; refine hK _ _ ?_; clear hK K) | (refine awp_seq ?_) | (refine awp_block ?_) | (refine awp_if true rfl (fun _ => ?_) (fun hc => by cases hc)) | (refine awp_if false rfl (fun hc => by cases hc) (fun _ => ?_)) | (refine awp_skip ?_; simp only [thenQ, blockQ]) | (refine awp_exit ?_; simp only [thenQ, blockQ, reduceIte, Nat.reduceEqDiff]) | (refine awp_region rfl ?_; simp only [hpn, optI, f3, hb, d0, d1, List.length_map, thenQ, blockQ, RR, seval]) | (refine awpG_splitN (fun h => ?_) (fun h => ?_) <;> simp only [h, hpn, optI, f3, hb, d0, d1, List.length_map, thenQ, blockQ, RR, seval]) | (refine awpG_split (fun h => ?_) (fun h => ?_) <;> simp only [h, hpn, optI, f3, hb, d0, d1, List.length_map, thenQ, blockQ, RR, seval]) | (refine awp_if _ rfl (fun h => ?_) (fun h => ?_)) | (refine awp_ret ?_; simp only [thenQ, blockQ, bodyQ, aresult, ares, argF, hpn, optI, f3, hb, d0, d1, List.length_map, RR, seval]; refine Gives.pure ?_))
      rw [hres, if_pos c1]
    · have d1 : decide ((k : Int) < vs.length) = false := decide_eq_false (by omega)
      by_cases c2 : k - vs.length < aa.length
      · have d2 : decide ((k : Int) - vs.length < aa.length) = true := decide_eq_true (by omega)
        repeat' (first | (refine awp_seq_k fun K hK => ?_; refine awp_region rfl ?_; simp only [hpn, optI, f3, hb, d0, d1, d2, w1, List.length_map, RR, seval]; refine hK _ _ ?_; clear hK K) | (refine awp_seq ?_) | (refine awp_block ?_) | (refine awp_if true rfl (fun _ => ?_) (fun hc => by cases hc)) | (refine awp_if false rfl (fun hc => by cases hc) (fun _ => ?_)) | (refine awp_skip ?_; simp only [thenQ, blockQ]) | (refine awp_exit ?_; simp only [thenQ, blockQ, reduceIte, Nat.reduceEqDiff]) | (refine awp_region rfl ?_; simp only [hpn, optI, f3, hb, d0, d1, d2, w1, List.length_map, thenQ, blockQ, RR, seval]) | (refine awpG_splitN (fun h => ?_) (fun h => ?_) <;> simp only [h, hpn, optI, f3, hb, d0, d1, d2, w1, List.length_map, thenQ, blockQ, RR, seval]) | (refine awpG_split (fun h => ?_) (fun h => ?_) <;> simp only [h, hpn, optI, f3, hb, d0, d1, d2, w1, List.length_map, thenQ, blockQ, RR, seval]) | (refine awp_if _ rfl (fun h => ?_) (fun h => ?_)) | (refine awp_ret ?_; simp only [thenQ, blockQ, bodyQ, aresult, ares, argF, hpn, optI, f3, hb, d0, d1, d2, w1, List.length_map, RR, seval]; refine Gives.pure ?_))
        rw [hres, if_neg c1, if_pos c2]
        simp only
        rw [show ((k - vs.length : Nat) : Int) = (k : Int) - vs.length by omega]
      · have d2 : decide ((k : Int) - vs.length < aa.length) = false := decide_eq_false (by omega)
        refine awp_seq ?_
        refine awp_seq_k fun K hK => ?_; refine awp_region rfl ?_; simp only [RR, seval]
        simp only [hpn, optI, d0, RR, seval]
        refine hK _ _ ?_; clear hK K
        refine awp_if false rfl (fun hc => by cases hc) (fun _ => ?_)
        refine awp_skip ?_; simp only [thenQ, blockQ]
        refine awp_seq ?_
        refine awp_seq_k fun K hK => ?_; refine awp_region rfl ?_; simp only [RR, seval]
        simp only [hpn, optI, f3, hb, List.length_map, d1, RR, seval]
        refine hK _ _ ?_; clear hK K
        refine awp_if false rfl (fun hc => by cases hc) (fun _ => ?_)
        refine awp_skip ?_; simp only [thenQ, blockQ]
        refine awp_seq_k fun K hK => ?_; refine awp_region rfl ?_; simp only [RR, seval]
        simp only [hpn, optI, f3, hb, List.length_map, w1, RR, seval]
        refine hK _ _ ?_; clear hK K
        refine awp_seq ?_
        refine awp_seq_k fun K hK => ?_; refine awp_region rfl ?_; simp only [RR, seval]
        simp only [f3, hb, List.length_map, d2, RR, seval]
        refine hK _ _ ?_; clear hK K
        refine awp_if false rfl (fun hc => by cases hc) (fun _ => ?_)
        refine awp_skip ?_; simp only [thenQ, blockQ]
        refine awp_seq_k fun K hK => ?_
        refine awp_region_draw (fun x => x ≠ b) [(0, true), (1, true), (2, true), (3, true), (4, true), (5, true), (6, true)] draws (by kernel_rfl) rfl ?_
        simp only [emit, markOf, f3, hb, awpL_entry, touch_ptr, List.length_map, w2, RR, seval]
        refine hK _ _ ?_; clear hK K
        refine awp_ret ?_; simp only [thenQ, blockQ, bodyQ, aresult, ares, argF, RR, seval]; refine Gives.pure ?_
        rw [hres, if_neg c1, if_neg c2]
        simp only
        rw [show ((k - vs.length - aa.length : Nat) : Int) = (k : Int) - vs.length - aa.length by omega]
theorem unlike_con (l : List Str) (hl : fitL l) : PCon env 86 [.isl 1 (l.map strRow)] (.bool (decide l.Nodup)) := by
  have hfit : l.length ≤ 9223372036854775807 := hl
  refine con_of 18 [.tmp 2] Try.func86 rfl rfl rfl rfl ?_
  refine awp_seq_k fun K hK => ?_; refine awp_region rfl ?_; simp only [RR, seval]
  refine hK _ _ ?_; clear hK K
  refine awp_cutK (fun fr H => l.Nodup) (fun K hK => ?_) ?_
  · refine awp_seq_k fun K hK => ?_; refine awp_region rfl ?_; simp only [RR, seval]
    refine hK _ _ ?_; clear hK K
    refine awp_block ?_
    refine awp_loopK (fun mm fr H => ∃ k : Nat, mm = l.length - k ∧ k ≤ l.length ∧ fr 3 = .int .i64 k ∧ fr 0 = .isl 1 (l.map strRow) ∧ (∀ i (h : i < l.length), i < k → placeN l l[i] = some i)) (l.length) ⟨0, rfl, Nat.zero_le _, rfl, rfl, fun i _ h => by omega⟩ ?_
    rintro mm fr H ⟨k, rfl, hkk, hik, h0, hall⟩ K2 hK2
    refine awp_seq ?_
    refine awp_seq_k fun K hK => ?_; refine awp_region rfl ?_; simp only [RR, seval]
    simp only [hik, h0,List.length_map, RR, seval]
    refine hK _ _ ?_; clear hK K
    refine awp_if _ rfl (fun hc => ?_) (fun hc => ?_)
    · have hltk : k < l.length := by have := of_decide_eq_true hc; omega
      clear hc
      refine awp_skip ?_; simp only [thenQ, blockQ]
      refine awp_seq ?_
      refine awp_block ?_
      have hg := getN (List.getElem?_eq_getElem hltk)
      have hcon := place_con l l[k] hl
      refine awp_seq_k fun K hK => ?_; refine awp_region rfl ?_; simp only [RR, seval]
      simp only [h0, hik, hg, RR, seval]
      refine awpC_pure' hcon ?_; simp only [RR, seval]
      simp only [hik, RR, seval]
      refine hK _ _ ?_; clear hK K
      by_cases hpk : placeN l l[k] = some k
      · refine awp_if false (by rw [hpk]; simp [upd, ev, optI]) (fun hc => by cases hc) (fun _ => ?_)
        refine awp_skip ?_; simp only [thenQ, blockQ]
        refine awp_region rfl ?_; simp only [RR, seval]
        simp only [hik, thenQ, blockQ, RR, seval]
        rw [IntWalk.i64_in _ (by omega)]
        refine hK2 (l.length - (k + 1)) _ _ (by omega) ⟨k + 1, rfl, by omega, rfl, h0, fun i h hi => if e : i = k then by subst e; exact hpk else hall i h (by omega)⟩
      · have hne : ¬ optI (placeN l l[k]) = (k : Int) := fun e => by
          cases hh : placeN l l[k] with
          | none => rw [hh] at e; simp only [optI] at e; omega
          | some j => rw [hh] at e hpk; simp only [optI] at e; exact hpk (by congr 1; omega)
        refine awp_if true (by simp [upd, ev, hne]) (fun _ => ?_) (fun hc => by cases hc)
        repeat' (first | (refine awp_seq_k fun K hK => ?_; refine awp_region rfl ?_; simp only [h0, RR, seval]; refine hK _ _ ?_; clear hK K) | (refine awp_seq ?_) | (refine awp_block ?_) | (refine awp_if true rfl (fun _ => ?_) (fun hc => by cases hc)) | (refine awp_if false rfl (fun hc => by cases hc) (fun _ => ?_)) | (refine awp_skip ?_; simp only [thenQ, blockQ]) | (refine awp_exit ?_; simp only [thenQ, blockQ, reduceIte, Nat.reduceEqDiff]) | (refine awp_region rfl ?_; simp only [h0, thenQ, blockQ, RR, seval]) | (refine awpG_splitN (fun h => ?_) (fun h => ?_) <;> simp only [h, h0, thenQ, blockQ, RR, seval]) | (refine awpG_split (fun h => ?_) (fun h => ?_) <;> simp only [h, h0, thenQ, blockQ, RR, seval]) | (refine awp_if _ rfl (fun h => ?_) (fun h => ?_)) | (refine awp_ret ?_; simp only [thenQ, blockQ, bodyQ, aresult, ares, argF, h0, RR, seval]; refine Gives.pure ?_))
        congr 1
        symm
        exact decide_eq_false fun hnd => hpk ((nodup_place l).1 hnd k hltk)
    · refine awp_exit ?_; simp only [thenQ, blockQ, reduceIte, Nat.reduceEqDiff]
      have hknk : k = l.length := by have := of_decide_eq_false hc; omega
      clear hc
      subst hknk
      exact hK _ _ ((nodup_place l).2 fun i h => hall i h h)
  · rintro fr H h0
    refine awp_seq_k fun K hK => ?_; refine awp_region rfl ?_; simp only [RR, seval]
    refine hK _ _ ?_; clear hK K
    refine awp_ret ?_; simp only [thenQ, blockQ, bodyQ, aresult, ares, argF, RR, seval]; refine Gives.pure ?_
    congr 1
    exact (decide_eq_true h0).symm
end Go.Proofs.Ytlokndnkpleegaa
