/- Chapter 16, the judge's: names and uses. -/
import Derived.Test.YtlokndnkpleegaaF14e
import Derived.Test.YtlokndnkpleegaaAlX
set_option linter.unusedSimpArgs false
set_option linter.unusedVariables false
set_option maxRecDepth 10000
namespace Go.Al
def placeN : List Str → Str → Option Nat
  | [], _ => none
  | x :: l, s => if x = s then some 0 else (placeN l s).map (· + 1)
def optI : Option Nat → Int | some n => n | none => -1
theorem placeN_lt : ∀ (l : List Str) (s : Str) (k : Nat), placeN l s = some k → k < l.length ∧ l[k]? = some s
  | [], s, k, h => by cases h
  | x :: l, s, k, h => by
    simp only [placeN] at h
    split at h
    · rename_i e; cases h; exact ⟨by simp, by simp [e]⟩
    · rw [Option.map_eq_some_iff] at h
      obtain ⟨j, hj, rfl⟩ := h
      have := placeN_lt l s j hj
      exact ⟨by simp only [List.length_cons]; omega, by simpa using this.2⟩
/-- where the search goes on -/
theorem placeN_from : ∀ (l : List Str) (s : Str) (k : Nat), (l.take k).contains s = false → placeN l s = (placeN (l.drop k) s).map (· + k)
  | l, s, 0, _ => by simp
  | [], s, k + 1, _ => by simp [placeN]
  | x :: l, s, k + 1, h => by
    simp only [List.take_succ_cons, List.contains_cons, Bool.or_eq_false_iff] at h
    have hne : ¬ x = s := fun e => by rw [e] at h; simp at h
    simp only [placeN, if_neg hne, List.drop_succ_cons]
    rw [placeN_from l s k h.2]
    cases placeN (l.drop k) s <;> simp [Nat.add_assoc]
def namesL (f : Fu) : List Str := f.params ++ f.locs
def globL (p : Pg) : List Str := p.vars ++ p.arrs.map Ar.name ++ p.funs.map Fu.name
def findG (p : Pg) (s : Str) : Int × Int := match placeN (globL p) s with
  | none => (0, -1)
  | some k => if k < p.vars.length then (2, k) else if k - p.vars.length < p.arrs.length then (3, ((k - p.vars.length : Nat) : Int)) else (4, ((k - p.vars.length - p.arrs.length : Nat) : Int))
def findF (p : Pg) (f : Nat) (s : Str) : Int × Int := match (p.funs[f]?).bind fun g => placeN (namesL g) s with
  | some k => (1, k)
  | none => findG p s
structure Us where
  name : Str
  kind : Int
  num : Int
def Us.row (u : Us) : List AV := [.str u.name, .int .i64 u.kind, .int .i64 u.num]
def useX (e : Ex) : List Us := if e.kind = 2 then [⟨e.name, 1, 0⟩] else if e.kind = 3 then [⟨e.name, 3, 0⟩] else if e.kind = 4 then [⟨e.name, 4, e.kids.length⟩] else []
def usesE : List Ex → List Us
  | [] => []
  | .mk k o n s kids :: l => useX (.mk k o n s kids) ++ usesE kids ++ usesE l
theorem usesE_cons (e : Ex) (l : List Ex) : usesE (e :: l) = useX e ++ usesE e.kids ++ usesE l := by cases e; rw [usesE]; rfl
def useS (e : Sm) : List Us := if e.kind = 1 then [⟨e.name, 1, 0⟩] else if e.kind = 2 then [⟨e.name, 3, 0⟩] else if e.kind = 6 then [⟨e.name, 4, e.es.length⟩] else []
def usesS : List Sm → List Us
  | [] => []
  | .mk k s es t u :: l => useS (.mk k s es t u) ++ usesE es ++ usesS t ++ usesS u ++ usesS l
theorem usesS_cons (e : Sm) (l : List Sm) : usesS (e :: l) = useS e ++ usesE e.es ++ usesS e.thn ++ usesS e.els ++ usesS l := by cases e; rw [usesS]; rfl
theorem useX_len (e : Ex) : (useX e).length ≤ 1 := by
  unfold useX
  repeat' split
  all_goals simp
theorem useS_len (e : Sm) : (useS e).length ≤ 1 := by
  unfold useS
  repeat' split
  all_goals simp
theorem usesE_len (n : Nat) : ∀ l : List Ex, szE l = n → (usesE l).length ≤ n := by
  induction n using Nat.strongRecOn with
  | _ n ih =>
    intro l hn
    cases l with
    | nil => simp [usesE]
    | cons e l =>
      have hs := e.sz_eq
      simp only [szE] at hn
      rw [usesE_cons, List.length_append, List.length_append]
      have := useX_len e
      have h1 := ih (szE e.kids) (by omega) e.kids rfl
      have h2 := ih (szE l) (by omega) l rfl
      omega
theorem usesS_len (n : Nat) : ∀ l : List Sm, szS l = n → (usesS l).length ≤ n := by
  induction n using Nat.strongRecOn with
  | _ n ih =>
    intro l hn
    cases l with
    | nil => simp [usesS]
    | cons e l =>
      have hs := e.sz_eq
      simp only [szS] at hn
      rw [usesS_cons, List.length_append, List.length_append, List.length_append, List.length_append]
      have := useS_len e
      have h0 := usesE_len _ e.es rfl
      have h1 := ih (szS e.thn) (by omega) e.thn rfl
      have h2 := ih (szS e.els) (by omega) e.els rfl
      have h3 := ih (szS l) (by omega) l rfl
      omega
theorem usesE_take {l : List Ex} {k : Nat} (h : k < l.length) : usesE (l.take (k + 1)) = usesE (l.take k) ++ (useX l[k] ++ usesE l[k].kids) := by
  have key : ∀ a b : List Ex, usesE (a ++ b) = usesE a ++ usesE b := by
    intro a b
    induction a with
    | nil => simp [usesE]
    | cons e a ih => rw [List.cons_append, usesE_cons, usesE_cons, ih]; simp only [List.append_assoc]
  rw [List.take_succ_eq_append_getElem h, key, usesE_cons]
  simp [usesE]
theorem usesS_take {l : List Sm} {k : Nat} (h : k < l.length) : usesS (l.take (k + 1)) = usesS (l.take k) ++ (useS l[k] ++ usesE l[k].es ++ usesS l[k].thn ++ usesS l[k].els) := by
  have key : ∀ a b : List Sm, usesS (a ++ b) = usesS a ++ usesS b := by
    intro a b
    induction a with
    | nil => simp [usesS]
    | cons e a ih => rw [List.cons_append, usesS_cons, usesS_cons, ih]; simp only [List.append_assoc]
  rw [List.take_succ_eq_append_getElem h, key, usesS_cons]
  simp [usesS]
theorem szE_take (l : List Ex) (k : Nat) : szE (l.take k) ≤ szE l := by
  induction l generalizing k with
  | nil => simp
  | cons e l ih =>
    cases k with
    | zero => simp [szE]
    | succ k => simp only [List.take_succ_cons, szE]; have := ih k; omega
theorem szS_take (l : List Sm) (k : Nat) : szS (l.take k) ≤ szS l := by
  induction l generalizing k with
  | nil => simp
  | cons e l ih =>
    cases k with
    | zero => simp [szS]
    | succ k => simp only [List.take_succ_cons, szS]; have := ih k; omega
theorem oneN (l : List Str) : (l.map strRow).all (fun r => r.all one) = true := by
  rw [List.all_eq_true]; intro r hr; obtain ⟨t, _, rfl⟩ := List.mem_map.1 hr; rfl
theorem oneU (l : List Us) : (l.map Us.row).all (fun r => r.all one) = true := by
  rw [List.all_eq_true]; intro r hr; obtain ⟨t, _, rfl⟩ := List.mem_map.1 hr; rfl
end Go.Al
namespace Go.Proofs.Ytlokndnkpleegaa
open Go.Al
theorem place_con (l : List Str) (s : Str) (hl : fitL l) : PCon env 79 [.isl 1 (l.map strRow), .str s] (.int .i64 (optI (placeN l s))) := by
  have hl : l.length ≤ 9223372036854775807 := hl
  refine con_of 19 [.tmp 4] Try.func79 rfl rfl rfl rfl ?_
  refine awp_seq_k fun K hK => ?_; refine awp_region rfl ?_; simp only [RR, seval]
  refine hK _ _ ?_; clear hK K
  refine awp_cutK (fun fr H => placeN l s = none) (fun K hK => ?_) ?_
  · refine awp_seq_k fun K hK => ?_; refine awp_region rfl ?_; simp only [RR, seval]
    refine hK _ _ ?_; clear hK K
    refine awp_block ?_
    refine awp_loopK (fun mm fr H => ∃ k : Nat, mm = l.length - k ∧ k ≤ l.length ∧ fr 5 = .int .i64 k ∧ fr 0 = .isl 1 (l.map strRow) ∧ fr 1 = .str s ∧ placeN l s = (placeN (l.drop k) s).map (· + k)) (l.length) ⟨0, rfl, Nat.zero_le _, rfl, rfl, rfl, by simp⟩ ?_
    rintro mm fr H ⟨k, rfl, hkk, hik, h0, f1, hp⟩ K2 hK2
    refine awp_seq ?_
    refine awp_seq_k fun K hK => ?_; refine awp_region rfl ?_; simp only [RR, seval]
    simp only [hik, h0,List.length_map, RR, seval]
    refine hK _ _ ?_; clear hK K
    refine awp_if _ rfl (fun hc => ?_) (fun hc => ?_)
    · have hltk : k < l.length := by have := of_decide_eq_true hc; omega
      clear hc
      refine awp_skip ?_; simp only [thenQ, blockQ]
      refine awp_seq ?_
      refine awp_block ?_
      have hg := getN (List.getElem?_eq_getElem hltk)
      rw [List.drop_eq_getElem_cons hltk] at hp
      simp only [placeN] at hp
      generalize l[k] = x at hg hp
      refine awp_seq_k fun K hK => ?_; refine awp_region rfl ?_; simp only [RR, seval]
      simp only [h0, f1, hik, hg, RR, seval]
      refine hK _ _ ?_; clear hK K
      refine awp_if _ rfl (fun hc => ?_) (fun hc => ?_)
      · have e : x = s := of_decide_eq_true hc
        rw [if_pos e] at hp
        repeat' (first | (refine awp_seq_k fun K hK => ?_; refine awp_region rfl ?_; simp only [hik, RR, seval]; refine hK _ _ ?_; clear hK K) | (refine awp_seq ?_) | (refine awp_block ?_) | (refine awp_if true rfl (fun _ => ?_) (fun hc => by cases hc)) | (refine awp_if false rfl (fun hc => by cases hc) (fun _ => ?_)) | (refine awp_skip ?_; simp only [thenQ, blockQ]) | (refine awp_exit ?_; simp only [thenQ, blockQ, reduceIte, Nat.reduceEqDiff]) | (refine awp_region rfl ?_; simp only [hik, thenQ, blockQ, RR, seval]) | (refine awpG_splitN (fun h => ?_) (fun h => ?_) <;> simp only [h, hik, thenQ, blockQ, RR, seval]) | (refine awpG_split (fun h => ?_) (fun h => ?_) <;> simp only [h, hik, thenQ, blockQ, RR, seval]) | (refine awp_if _ rfl (fun h => ?_) (fun h => ?_)) | (refine awp_ret ?_; simp only [thenQ, blockQ, bodyQ, aresult, ares, argF, hik, RR, seval]; refine Gives.pure ?_))
        rw [hp]; simp [optI]
      · have e : ¬ x = s := of_decide_eq_false hc
        rw [if_neg e] at hp
        refine awp_skip ?_; simp only [thenQ, blockQ]
        refine awp_region rfl ?_; simp only [RR, seval]
        simp only [hik, thenQ, blockQ, RR, seval]
        rw [IntWalk.i64_in _ (by omega)]
        refine hK2 (l.length - (k + 1)) _ _ (by omega) ⟨k + 1, rfl, by omega, rfl, h0, f1, by rw [hp, Option.map_map]; congr 1; funext y; simp only [Function.comp]; omega⟩
    · refine awp_exit ?_; simp only [thenQ, blockQ, reduceIte, Nat.reduceEqDiff]
      have hknk : k = l.length := by have := of_decide_eq_false hc; omega
      clear hc
      subst hknk
      rw [List.drop_length] at hp
      exact hK _ _ (by rw [hp]; rfl)
  · rintro fr H h0
    refine awp_seq_k fun K hK => ?_; refine awp_region rfl ?_; simp only [RR, seval]
    refine hK _ _ ?_; clear hK K
    refine awp_ret ?_; simp only [thenQ, blockQ, bodyQ, aresult, ares, argF, RR, seval]; refine Gives.pure ?_
    rw [h0]; rfl
theorem Names_con (f : Fu) (h : f.params.length ≤ 1000000) (h2 : f.locs.length ≤ 1200000) : PCon env 80 [.agg f.row] (.isl 1 ((namesL f).map strRow)) := by
  refine con_of 10 [.tmp 2] Try.func80 rfl rfl rfl rfl ?_
  simp only [Fu.row]
  refine awp_cutK (fun fr H => ∃ b, fr 1 = .ptr 5 b 0 0 ∧ H b = some (.rows 5 [[.str f.name, .isl 1 (f.params.map strRow), .isl 1 (f.locs.map strRow), .bool f.word, .isl 5 (f.body.map Sm.row)]])) (fun K hK => ?_) ?_
  · refine awp_region rfl ?_; simp only [RR, seval]
    refine awpN_intro fun b hb => ?_; simp only [RR, seval]
    exact hK _ _ ⟨b, rfl, upd_same _ _ _⟩
  rintro fr H ⟨b, f1, hb⟩
  refine awp_cutK (fun fr H => OwnL 1 (fr 2) ((namesL f).map strRow) H) (fun K hK => ?_) ?_
  · refine awp_region_draw (fun x => x ≠ b) [(1, false), (2, false), (4, false), (5, false), (0, true), (3, true), (6, true), (7, true)] draws (by kernel_rfl) rfl ?_
    simp only [emit, markOf, f1, hb, awpL_entry, touch_ptr, RR, seval]
    refine awpB_own fun b0 hb0 => ?_
    have hne : b ≠ b0 := fun e => by rw [e, hb0] at hb; cases hb
    have hb' : (upd H b0 (some (.rows 1 []))) b = some (.rows 5 [[.str f.name, .isl 1 (f.params.map strRow), .isl 1 (f.locs.map strRow), .bool f.word, .isl 5 (f.body.map Sm.row)]]) := by simp only [upd, if_neg hne, hb]
    have hown : OwnO 1 (.osl 1 b0 0) [] (upd H b0 (some (.rows 1 []))) := ⟨b0, rfl, upd_same _ _ _⟩
    generalize upd H b0 (some (.rows 1 [])) = H1 at hb' hown ⊢
    simp only [oneN, awpL_entry, touch_ptr, RR, seval]
    refine awpA_ownO hown (by simp only [List.length_nil, List.length_map]; omega) (fun x hx => hown.far hb' (by decide) x hx) fun v2 H2 hv2 hk2 => ?_
    have hb2 := hk2 b _ hb' (hown.nb' hb' (by decide))
    simp only [oneN, RR, seval]
    refine awpA_ownO hv2 (by simp only [List.nil_append, List.length_map]; omega) (fun x hx => hv2.far hb2 (by decide) x hx) fun v3 H3 hv3 _ => ?_
    simp only [RR, seval]
    refine hK _ _ ?_
    simp only [upd, reduceIte, namesL, List.map_append]
    exact hv3.own
  rintro fr H hown
  refine awp_ret ?_
  simp only [thenQ, blockQ, bodyQ, aresult, ares, argF, RR, seval]
  exact hown.gives1 rfl
set_option maxHeartbeats 2000000 in
theorem exprs_con (n : Nat) : ∀ l : List Ex, szE l = n → n ≤ 1000000 → okE l → PCon env 97 [.isl 5 (l.map Ex.row)] (.isl 3 ((usesE l).map Us.row)) := by
  induction n using Nat.strongRecOn with
  | _ n ih =>
    intro l hn hbd hok
    have hfit : l.length ≤ 9223372036854775807 := hok.fit
    refine con_of 64 [.tmp 2] Try.func97 rfl rfl rfl rfl ?_
    refine awp_seq_k fun K hK => ?_; refine awp_region rfl ?_; simp only [RR, seval]
    refine hK _ _ ?_; clear hK K
    refine awp_seq_k fun K hK => ?_; refine awp_region rfl ?_; simp only [RR, seval]
    refine hK _ _ ?_; clear hK K
    refine awp_cutK (fun fr H => OwnL 3 (fr 3) ((usesE l).map Us.row) H) (fun K hK => ?_) ?_
    · refine awp_seq_k fun K hK => ?_; refine awp_region rfl ?_; simp only [RR, seval]
      refine hK _ _ ?_; clear hK K
      refine awp_block ?_
      refine awp_loopK (fun mm fr H => ∃ k : Nat, mm = l.length - k ∧ k ≤ l.length ∧ fr 4 = .int .i64 k ∧ fr 0 = .isl 5 (l.map Ex.row) ∧ OwnL 3 (fr 3) ((usesE (l.take k)).map Us.row) H) (l.length) ⟨0, rfl, Nat.zero_le _, rfl, rfl, .inl ⟨rfl, by simp [usesE, usesS]⟩⟩ ?_
      rintro mm fr H ⟨k, rfl, hkk, hik, h0, hown⟩ K2 hK2
      refine awp_seq ?_
      refine awp_seq_k fun K hK => ?_; refine awp_region rfl ?_; simp only [RR, seval]
      simp only [hik, h0,List.length_map, RR, seval]
      refine hK _ _ ?_; clear hK K
      refine awp_if _ rfl (fun hc => ?_) (fun hc => ?_)
      · have hltk : k < l.length := by have := of_decide_eq_true hc; omega
        clear hc
        refine awp_skip ?_; simp only [thenQ, blockQ]
        refine awp_seq ?_
        refine awp_block ?_
        have hg := getE (List.getElem?_eq_getElem hltk)
        have hmem := List.getElem_mem hltk
        have hoke := hok.all _ hmem
        have hsz := szE_mem hmem
        have htk := usesE_take hltk
        have hlt1 := usesE_len _ (l.take k) rfl
        have hlt2 := szE_take l k
        have hul := useX_len l[k]
        generalize l[k] = e at hg htk hoke hsz hul
        have hse := e.sz_eq
        have hkl := usesE_len _ e.kids rfl
        have hfk : e.kids.length ≤ 9223372036854775807 := hoke.kids.fit
        refine awp_cutK (fun fr H => fr 0 = .isl 5 (l.map Ex.row) ∧ OwnL 3 (fr 3) ((usesE (l.take k) ++ useX e).map Us.row) H ∧ fr 4 = .int .i64 k) (fun K hK => ?_) ?_
        · refine awp_seq_k fun K hK => ?_; refine awp_region rfl ?_; simp only [RR, seval]
          simp only [h0, hik, hg, RR, seval]
          refine hK _ _ ?_; clear hK K
          refine awp_block ?_
          refine awp_seq_k fun K hK => ?_; refine awp_region rfl ?_; simp only [RR, seval]
          refine hK _ _ ?_; clear hK K
          have hb32 : (((usesE (l.take k)).map Us.row).length + 1) * 32 ≤ 140737488355328 := by rw [List.length_map]; omega
          by_cases k2 : e.kind = 2
          · refine awp_if true (congrArg AV.bool (decide_eq_true k2)) (fun _ => ?_) (fun hc => by cases hc)
            refine awp_region rfl ?_; simp only [RR, seval]
            simp only [h0, hik, hg, RR, seval]
            refine awpB_sealed ?_
            simp only [RR, seval]
            refine awpA_own hown hb32 (fun _ => trivial) fun v' H' hv' _ => ?_
            simp only [RR, seval]
            refine hK _ _ ⟨h0, ?_, hik⟩
            rw [show useX e = [⟨e.name, 1, 0⟩] by simp [useX, k2], List.map_append]; exact hv'
          refine awp_if false (congrArg AV.bool (decide_eq_false k2)) (fun hc => by cases hc) (fun _ => ?_)
          refine awp_seq_k fun K hK => ?_; refine awp_region rfl ?_; simp only [RR, seval]
          refine hK _ _ ?_; clear hK K
          by_cases k3 : e.kind = 3
          · refine awp_if true (congrArg AV.bool (decide_eq_true k3)) (fun _ => ?_) (fun hc => by cases hc)
            refine awp_region rfl ?_; simp only [RR, seval]
            simp only [h0, hik, hg, RR, seval]
            refine awpB_sealed ?_
            simp only [RR, seval]
            refine awpA_own hown hb32 (fun _ => trivial) fun v' H' hv' _ => ?_
            simp only [RR, seval]
            refine hK _ _ ⟨h0, ?_, hik⟩
            rw [show useX e = [⟨e.name, 3, 0⟩] by simp [useX, k3], List.map_append]; exact hv'
          refine awp_if false (congrArg AV.bool (decide_eq_false k3)) (fun hc => by cases hc) (fun _ => ?_)
          refine awp_seq_k fun K hK => ?_; refine awp_region rfl ?_; simp only [RR, seval]
          refine hK _ _ ?_; clear hK K
          by_cases k4 : e.kind = 4
          · refine awp_if true (congrArg AV.bool (decide_eq_true k4)) (fun _ => ?_) (fun hc => by cases hc)
            refine awp_region_draw (fun _ => True) [(0, false), (1, true), (2, true), (3, true), (4, true), (5, true), (6, true), (7, true), (8, true), (9, true), (10, true), (11, true), (12, true), (13, true), (14, true), (15, true)] draws (by kernel_rfl) rfl ?_
            simp only [emit, markOf, h0, hik, hg, awpL_entry, touch_ipt, RR, seval]
            refine awpB_sealed ?_
            simp only [List.length_map, awpL_entry, touch_ipt, RR, seval]
            refine awpA_own hown hb32 (fun _ => trivial) fun v' H' hv' _ => ?_
            simp only [RR, seval]
            refine hK _ _ ⟨h0, ?_, hik⟩
            rw [show useX e = [⟨e.name, 4, e.kids.length⟩] by simp [useX, k4], List.map_append]; exact hv'
          refine awp_if false (congrArg AV.bool (decide_eq_false k4)) (fun hc => by cases hc) (fun _ => ?_)
          refine awp_skip ?_; simp only [thenQ, blockQ]
          refine hK _ _ ⟨h0, ?_, hik⟩
          rw [show useX e = [] by simp [useX, k2, k3, k4], List.append_nil]; exact hown
        · rintro fr H ⟨h0, hown, hik⟩
          refine awp_region rfl ?_
          simp only [h0, hik, hg, RR, seval]
          refine awpC_pure' (ih _ (by omega) e.kids rfl (by omega) hoke.kids) ?_; simp only [RR, seval]
          simp only [oneU, RR, seval]
          refine awpA_own hown (by simp only [List.length_map, List.length_append]; omega) (fun _ => trivial) fun v' H' hv' _ => ?_
          simp only [thenQ, blockQ, RR, seval]
          refine awp_region rfl ?_; simp only [RR, seval]
          simp only [hik, thenQ, blockQ, RR, seval]
          rw [IntWalk.i64_in _ (by omega)]
          refine hK2 (l.length - (k + 1)) _ _ (by omega) ⟨k + 1, rfl, by omega, rfl, h0, by rw [htk, ← List.append_assoc, List.map_append]; exact hv'⟩
      · refine awp_exit ?_; simp only [thenQ, blockQ, reduceIte, Nat.reduceEqDiff]
        have hknk : k = l.length := by have := of_decide_eq_false hc; omega
        clear hc
        subst hknk
        rw [List.take_length] at hown
        exact hK _ _ hown
    · rintro fr H hown
      refine awp_seq_k fun K hK => ?_; refine awp_region rfl ?_; simp only [RR, seval]
      refine hK _ _ ?_; clear hK K
      refine awp_ret ?_
      simp only [thenQ, blockQ, bodyQ, aresult, ares, argF, RR, seval]
      exact hown.gives1 rfl
set_option maxHeartbeats 2000000 in
theorem Uses_con (n : Nat) : ∀ l : List Sm, szS l = n → n ≤ 1000000 → okS l → PCon env 87 [.isl 5 (l.map Sm.row)] (.isl 3 ((usesS l).map Us.row)) := by
  induction n using Nat.strongRecOn with
  | _ n ih =>
    intro l hn hbd hok
    have hfit : l.length ≤ 9223372036854775807 := hok.fit
    refine con_of 80 [.tmp 2] Try.func87 rfl rfl rfl rfl ?_
    refine awp_seq_k fun K hK => ?_; refine awp_region rfl ?_; simp only [RR, seval]
    refine hK _ _ ?_; clear hK K
    refine awp_seq_k fun K hK => ?_; refine awp_region rfl ?_; simp only [RR, seval]
    refine hK _ _ ?_; clear hK K
    refine awp_cutK (fun fr H => OwnL 3 (fr 3) ((usesS l).map Us.row) H) (fun K hK => ?_) ?_
    · refine awp_seq_k fun K hK => ?_; refine awp_region rfl ?_; simp only [RR, seval]
      refine hK _ _ ?_; clear hK K
      refine awp_block ?_
      refine awp_loopK (fun mm fr H => ∃ k : Nat, mm = l.length - k ∧ k ≤ l.length ∧ fr 4 = .int .i64 k ∧ fr 0 = .isl 5 (l.map Sm.row) ∧ OwnL 3 (fr 3) ((usesS (l.take k)).map Us.row) H) (l.length) ⟨0, rfl, Nat.zero_le _, rfl, rfl, .inl ⟨rfl, by simp [usesE, usesS]⟩⟩ ?_
      rintro mm fr H ⟨k, rfl, hkk, hik, h0, hown⟩ K2 hK2
      refine awp_seq ?_
      refine awp_seq_k fun K hK => ?_; refine awp_region rfl ?_; simp only [RR, seval]
      simp only [hik, h0,List.length_map, RR, seval]
      refine hK _ _ ?_; clear hK K
      refine awp_if _ rfl (fun hc => ?_) (fun hc => ?_)
      · have hltk : k < l.length := by have := of_decide_eq_true hc; omega
        clear hc
        refine awp_skip ?_; simp only [thenQ, blockQ]
        refine awp_seq ?_
        refine awp_block ?_
        have hg := getS (List.getElem?_eq_getElem hltk)
        have hmem := List.getElem_mem hltk
        have hoke := hok.all _ hmem
        have hsz := szS_mem hmem
        have htk := usesS_take hltk
        have hlt1 := usesS_len _ (l.take k) rfl
        have hlt2 := szS_take l k
        have hul := useS_len l[k]
        generalize l[k] = e at hg htk hoke hsz hul
        have hse := e.sz_eq
        have hkl := usesE_len _ e.es rfl
        have hkt := usesS_len _ e.thn rfl
        have hke := usesS_len _ e.els rfl
        refine awp_cutK (fun fr H => fr 0 = .isl 5 (l.map Sm.row) ∧ OwnL 3 (fr 3) ((usesS (l.take k) ++ useS e).map Us.row) H ∧ fr 4 = .int .i64 k) (fun K hK => ?_) ?_
        · refine awp_seq_k fun K hK => ?_; refine awp_region rfl ?_; simp only [RR, seval]
          simp only [h0, hik, hg, RR, seval]
          refine hK _ _ ?_; clear hK K
          refine awp_block ?_
          refine awp_seq_k fun K hK => ?_; refine awp_region rfl ?_; simp only [RR, seval]
          refine hK _ _ ?_; clear hK K
          have hb32 : (((usesS (l.take k)).map Us.row).length + 1) * 32 ≤ 140737488355328 := by rw [List.length_map]; omega
          by_cases k2 : e.kind = 1
          · refine awp_if true (congrArg AV.bool (decide_eq_true k2)) (fun _ => ?_) (fun hc => by cases hc)
            refine awp_region rfl ?_; simp only [RR, seval]
            simp only [h0, hik, hg, RR, seval]
            refine awpB_sealed ?_
            simp only [RR, seval]
            refine awpA_own hown hb32 (fun _ => trivial) fun v' H' hv' _ => ?_
            simp only [RR, seval]
            refine hK _ _ ⟨h0, ?_, hik⟩
            rw [show useS e = [⟨e.name, 1, 0⟩] by simp [useS, k2], List.map_append]; exact hv'
          refine awp_if false (congrArg AV.bool (decide_eq_false k2)) (fun hc => by cases hc) (fun _ => ?_)
          refine awp_seq_k fun K hK => ?_; refine awp_region rfl ?_; simp only [RR, seval]
          refine hK _ _ ?_; clear hK K
          by_cases k3 : e.kind = 2
          · refine awp_if true (congrArg AV.bool (decide_eq_true k3)) (fun _ => ?_) (fun hc => by cases hc)
            refine awp_region rfl ?_; simp only [RR, seval]
            simp only [h0, hik, hg, RR, seval]
            refine awpB_sealed ?_
            simp only [RR, seval]
            refine awpA_own hown hb32 (fun _ => trivial) fun v' H' hv' _ => ?_
            simp only [RR, seval]
            refine hK _ _ ⟨h0, ?_, hik⟩
            rw [show useS e = [⟨e.name, 3, 0⟩] by simp [useS, k3], List.map_append]; exact hv'
          refine awp_if false (congrArg AV.bool (decide_eq_false k3)) (fun hc => by cases hc) (fun _ => ?_)
          refine awp_seq_k fun K hK => ?_; refine awp_region rfl ?_; simp only [RR, seval]
          refine hK _ _ ?_; clear hK K
          by_cases k4 : e.kind = 6
          · refine awp_if true (congrArg AV.bool (decide_eq_true k4)) (fun _ => ?_) (fun hc => by cases hc)
            refine awp_region_draw (fun _ => True) [(0, false), (1, true), (2, true), (3, true), (4, true), (5, true), (6, true), (7, true), (8, true), (9, true), (10, true), (11, true), (12, true), (13, true), (14, true), (15, true)] draws (by kernel_rfl) rfl ?_
            simp only [emit, markOf, h0, hik, hg, awpL_entry, touch_ipt, RR, seval]
            refine awpB_sealed ?_
            simp only [List.length_map, awpL_entry, touch_ipt, RR, seval]
            refine awpA_own hown hb32 (fun _ => trivial) fun v' H' hv' _ => ?_
            simp only [RR, seval]
            refine hK _ _ ⟨h0, ?_, hik⟩
            rw [show useS e = [⟨e.name, 4, e.es.length⟩] by simp [useS, k4], List.map_append]; exact hv'
          refine awp_if false (congrArg AV.bool (decide_eq_false k4)) (fun hc => by cases hc) (fun _ => ?_)
          refine awp_skip ?_; simp only [thenQ, blockQ]
          refine hK _ _ ⟨h0, ?_, hik⟩
          rw [show useS e = [] by simp [useS, k2, k3, k4], List.append_nil]; exact hown
        · rintro fr H ⟨h0, hown, hik⟩
          refine awp_seq_k fun K hK => ?_; refine awp_region rfl ?_; simp only [RR, seval]
          simp only [h0, hik, hg, RR, seval]
          refine awpC_pure' (exprs_con _ e.es rfl (by omega) hoke.es) ?_; simp only [RR, seval]
          simp only [oneU, RR, seval]
          refine awpA_own hown (by simp only [List.length_map, List.length_append]; omega) (fun _ => trivial) fun v' H' hv' _ => ?_
          simp only [RR, seval]
          refine hK _ _ ?_; clear hK K
          rw [← List.map_append] at hv'
          refine awp_seq_k fun K hK => ?_; refine awp_region rfl ?_; simp only [RR, seval]
          simp only [h0, hik, hg, RR, seval]
          refine awpC_pure' (ih _ (by omega) e.thn rfl (by omega) hoke.thn) ?_; simp only [RR, seval]
          simp only [oneU, RR, seval]
          refine awpA_own hv' (by simp only [List.length_map, List.length_append]; omega) (fun _ => trivial) fun v2 H2 hv2 _ => ?_
          simp only [RR, seval]
          refine hK _ _ ?_; clear hK K
          rw [← List.map_append] at hv2
          refine awp_region rfl ?_
          simp only [h0, hik, hg, RR, seval]
          refine awpC_pure' (ih _ (by omega) e.els rfl (by omega) hoke.els) ?_; simp only [RR, seval]
          simp only [oneU, RR, seval]
          refine awpA_own hv2 (by simp only [List.length_map, List.length_append]; omega) (fun _ => trivial) fun v3 H3 hv3 _ => ?_
          simp only [thenQ, blockQ, RR, seval]
          refine awp_region rfl ?_; simp only [RR, seval]
          simp only [hik, thenQ, blockQ, RR, seval]
          rw [IntWalk.i64_in _ (by omega)]
          refine hK2 (l.length - (k + 1)) _ _ (by omega) ⟨k + 1, rfl, by omega, rfl, h0, by rw [htk]; simp only [← List.append_assoc]; rw [List.map_append]; exact hv3⟩
      · refine awp_exit ?_; simp only [thenQ, blockQ, reduceIte, Nat.reduceEqDiff]
        have hknk : k = l.length := by have := of_decide_eq_false hc; omega
        clear hc
        subst hknk
        rw [List.take_length] at hown
        exact hK _ _ hown
    · rintro fr H hown
      refine awp_seq_k fun K hK => ?_; refine awp_region rfl ?_; simp only [RR, seval]
      refine hK _ _ ?_; clear hK K
      refine awp_ret ?_
      simp only [thenQ, blockQ, bodyQ, aresult, ares, argF, RR, seval]
      exact hown.gives1 rfl
end Go.Proofs.Ytlokndnkpleegaa
