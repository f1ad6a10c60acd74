/- Chapter 16, the judge's: names and uses. Chapter 16, the judge's: what a name is; are names right? Chapter 16, the judge's: are names right, are numbers? Chapter 16, the judge's: are numbers right? Check; comparing lists of lists. -/
import Derived.Test.YtefjogkgeelbdaaDoorSy2
import Derived.Test.YtefjogkgeelbdaaDoorAl4
set_option linter.unusedSimpArgs false
set_option linter.unusedVariables false
set_option maxRecDepth 10000
namespace Go.Al
def placeN : List Str → Str → Option Nat
  | [], _ => none
  | x :: l, s => if x = s then some 0 else (placeN l s).map (· + 1)
def optI : Option Nat → Int | some n => n | none => -1
theorem placeN_lt : ∀ (l : List Str) (s : Str) (k : Nat), placeN l s = some k → k < l.length ∧ l[k]? = some s
  | [], s, k, h => by cases h
  | x :: l, s, k, h => by
    simp only [placeN] at h
    split at h
    · rename_i e; cases h; exact ⟨by simp, by simp [e]⟩
    · rw [Option.map_eq_some_iff] at h
      obtain ⟨j, hj, rfl⟩ := h
      have := placeN_lt l s j hj
      exact ⟨by simp only [List.length_cons]; omega, by simpa using this.2⟩
/-- where the search goes on -/
theorem placeN_from : ∀ (l : List Str) (s : Str) (k : Nat), (l.take k).contains s = false → placeN l s = (placeN (l.drop k) s).map (· + k)
  | l, s, 0, _ => by simp
  | [], s, k + 1, _ => by simp [placeN]
  | x :: l, s, k + 1, h => by
    simp only [List.take_succ_cons, List.contains_cons, Bool.or_eq_false_iff] at h
    have hne : ¬ x = s := fun e => by rw [e] at h; simp at h
    simp only [placeN, if_neg hne, List.drop_succ_cons]
    rw [placeN_from l s k h.2]
    cases placeN (l.drop k) s <;> simp [Nat.add_assoc]
def namesL (f : Fu) : List Str := f.params ++ f.locs
def globL (p : Pg) : List Str := p.vars ++ p.arrs.map Ar.name ++ p.funs.map Fu.name
def findG (p : Pg) (s : Str) : Int × Int := match placeN (globL p) s with
  | none => (0, -1)
  | some k => if k < p.vars.length then (2, k) else if k - p.vars.length < p.arrs.length then (3, ((k - p.vars.length : Nat) : Int)) else (4, ((k - p.vars.length - p.arrs.length : Nat) : Int))
def findF (p : Pg) (f : Nat) (s : Str) : Int × Int := match (p.funs[f]?).bind fun g => placeN (namesL g) s with
  | some k => (1, k)
  | none => findG p s
structure Us where
  name : Str
  kind : Int
  num : Int
def Us.row (u : Us) : List AV := [.str u.name, .int .i64 u.kind, .int .i64 u.num]
def useX (e : Ex) : List Us := if e.kind = 2 then [⟨e.name, 1, 0⟩] else if e.kind = 3 then [⟨e.name, 3, 0⟩] else if e.kind = 4 then [⟨e.name, 4, e.kids.length⟩] else []
def usesE : List Ex → List Us
  | [] => []
  | .mk k o n s kids :: l => useX (.mk k o n s kids) ++ usesE kids ++ usesE l
theorem usesE_cons (e : Ex) (l : List Ex) : usesE (e :: l) = useX e ++ usesE e.kids ++ usesE l := by cases e; rw [usesE]; rfl
def useS (e : Sm) : List Us := if e.kind = 1 then [⟨e.name, 1, 0⟩] else if e.kind = 2 then [⟨e.name, 3, 0⟩] else if e.kind = 6 then [⟨e.name, 4, e.es.length⟩] else []
def usesS : List Sm → List Us
  | [] => []
  | .mk k s es t u :: l => useS (.mk k s es t u) ++ usesE es ++ usesS t ++ usesS u ++ usesS l
theorem usesS_cons (e : Sm) (l : List Sm) : usesS (e :: l) = useS e ++ usesE e.es ++ usesS e.thn ++ usesS e.els ++ usesS l := by cases e; rw [usesS]; rfl
theorem useX_len (e : Ex) : (useX e).length ≤ 1 := by
  unfold useX
  repeat' split
  all_goals simp
theorem useS_len (e : Sm) : (useS e).length ≤ 1 := by
  unfold useS
  repeat' split
  all_goals simp
theorem usesE_len (n : Nat) : ∀ l : List Ex, szE l = n → (usesE l).length ≤ n := by
  induction n using Nat.strongRecOn with
  | _ n ih =>
    intro l hn
    cases l with
    | nil => simp [usesE]
    | cons e l =>
      have hs := e.sz_eq
      simp only [szE] at hn
      rw [usesE_cons, List.length_append, List.length_append]
      have := useX_len e
      have h1 := ih (szE e.kids) (by omega) e.kids rfl
      have h2 := ih (szE l) (by omega) l rfl
      omega
theorem usesS_len (n : Nat) : ∀ l : List Sm, szS l = n → (usesS l).length ≤ n := by
  induction n using Nat.strongRecOn with
  | _ n ih =>
    intro l hn
    cases l with
    | nil => simp [usesS]
    | cons e l =>
      have hs := e.sz_eq
      simp only [szS] at hn
      rw [usesS_cons, List.length_append, List.length_append, List.length_append, List.length_append]
      have := useS_len e
      have h0 := usesE_len _ e.es rfl
      have h1 := ih (szS e.thn) (by omega) e.thn rfl
      have h2 := ih (szS e.els) (by omega) e.els rfl
      have h3 := ih (szS l) (by omega) l rfl
      omega
theorem usesE_take {l : List Ex} {k : Nat} (h : k < l.length) : usesE (l.take (k + 1)) = usesE (l.take k) ++ (useX l[k] ++ usesE l[k].kids) := by
  have key : ∀ a b : List Ex, usesE (a ++ b) = usesE a ++ usesE b := by
    intro a b
    induction a with
    | nil => simp [usesE]
    | cons e a ih => rw [List.cons_append, usesE_cons, usesE_cons, ih]; simp only [List.append_assoc]
  rw [List.take_succ_eq_append_getElem h, key, usesE_cons]
  simp [usesE]
theorem usesS_take {l : List Sm} {k : Nat} (h : k < l.length) : usesS (l.take (k + 1)) = usesS (l.take k) ++ (useS l[k] ++ usesE l[k].es ++ usesS l[k].thn ++ usesS l[k].els) := by
  have key : ∀ a b : List Sm, usesS (a ++ b) = usesS a ++ usesS b := by
    intro a b
    induction a with
    | nil => simp [usesS]
    | cons e a ih => rw [List.cons_append, usesS_cons, usesS_cons, ih]; simp only [List.append_assoc]
  rw [List.take_succ_eq_append_getElem h, key, usesS_cons]
  simp [usesS]
theorem szE_take (l : List Ex) (k : Nat) : szE (l.take k) ≤ szE l := by
  induction l generalizing k with
  | nil => simp
  | cons e l ih =>
    cases k with
    | zero => simp [szE]
    | succ k => simp only [List.take_succ_cons, szE]; have := ih k; omega
theorem szS_take (l : List Sm) (k : Nat) : szS (l.take k) ≤ szS l := by
  induction l generalizing k with
  | nil => simp
  | cons e l ih =>
    cases k with
    | zero => simp [szS]
    | succ k => simp only [List.take_succ_cons, szS]; have := ih k; omega
theorem oneN (l : List Str) : (l.map strRow).all (fun r => r.all one) = true := by
  rw [List.all_eq_true]; intro r hr; obtain ⟨t, _, rfl⟩ := List.mem_map.1 hr; rfl
theorem oneU (l : List Us) : (l.map Us.row).all (fun r => r.all one) = true := by
  rw [List.all_eq_true]; intro r hr; obtain ⟨t, _, rfl⟩ := List.mem_map.1 hr; rfl
end Go.Al
namespace Go.Proofs.YtefjogkgeelbdaaDoor
open Go.Al
theorem place_con (l : List Str) (s : Str) (hl : fitL l) : PCon env 86 [.isl 1 (l.map strRow), .str s] (.int .i64 (optI (placeN l s))) := by
  have hl : l.length ≤ 9223372036854775807 := hl
  refine con_of 19 [.tmp 4] Tryd.func86 rfl rfl rfl rfl ?_
  refine awp_seq_k fun K hK => ?_; refine awp_region rfl ?_; simp only [RR, seval]
  refine hK _ _ ?_; clear hK K
  refine awp_cutK (fun fr H => placeN l s = none) (fun K hK => ?_) ?_
  · refine awp_seq_k fun K hK => ?_; refine awp_region rfl ?_; simp only [RR, seval]
    refine hK _ _ ?_; clear hK K
    refine awp_block ?_
    refine awp_loopK (fun mm fr H => ∃ k : Nat, mm = l.length - k ∧ k ≤ l.length ∧ fr 5 = .int .i64 k ∧ fr 0 = .isl 1 (l.map strRow) ∧ fr 1 = .str s ∧ placeN l s = (placeN (l.drop k) s).map (· + k)) (l.length) ⟨0, rfl, Nat.zero_le _, rfl, rfl, rfl, by simp⟩ ?_
    rintro mm fr H ⟨k, rfl, hkk, hik, h0, f1, hp⟩ K2 hK2
    refine awp_seq ?_
    refine awp_seq_k fun K hK => ?_; refine awp_region rfl ?_; simp only [RR, seval]
    simp only [hik, h0,List.length_map, RR, seval]
    refine hK _ _ ?_; clear hK K
    refine awp_if _ rfl (fun hc => ?_) (fun hc => ?_)
    · have hltk : k < l.length := by have := of_decide_eq_true hc; omega
      clear hc
      refine awp_skip ?_; simp only [thenQ, blockQ]
      refine awp_seq ?_
      refine awp_block ?_
      have hg := getN (List.getElem?_eq_getElem hltk)
      rw [List.drop_eq_getElem_cons hltk] at hp
      simp only [placeN] at hp
      generalize l[k] = x at hg hp
      refine awp_seq_k fun K hK => ?_; refine awp_region rfl ?_; simp only [RR, seval]
      simp only [h0, f1, hik, hg, RR, seval]
      refine hK _ _ ?_; clear hK K
      refine awp_if _ rfl (fun hc => ?_) (fun hc => ?_)
      · have e : x = s := of_decide_eq_true hc
        rw [if_pos e] at hp
        repeat' (first | (refine awp_seq_k fun K hK => ?_; refine awp_region rfl ?_; simp only [hik, RR, seval]; refine hK _ _ ?_; clear hK K) | (refine awp_seq ?_) | (refine awp_block ?_) | (refine awp_if true rfl (fun _ => ?_) (fun hc => by cases hc)) | (refine awp_if false rfl (fun hc => by cases hc) (fun _ => ?_)) | (refine awp_skip ?_; simp only [thenQ, blockQ]) | (refine awp_exit ?_; simp only [thenQ, blockQ, reduceIte, Nat.reduceEqDiff]) | (refine awp_region rfl ?_; simp only [hik, thenQ, blockQ, RR, seval]) | (refine awpG_splitN (fun h => ?_) (fun h => ?_) <;> simp only [h, hik, thenQ, blockQ, RR, seval]) | (refine awpG_split (fun h => ?_) (fun h => ?_) <;> simp only [h, hik, thenQ, blockQ, RR, seval]) | (refine awp_if _ rfl (fun h => ?_) (fun h => ?_)) | (refine awp_ret ?_; simp only [thenQ, blockQ, bodyQ, aresult, ares, argF, hik, RR, seval]; refine Gives.pure ?_))
        rw [hp]; simp [optI]
      · have e : ¬ x = s := of_decide_eq_false hc
        rw [if_neg e] at hp
        refine awp_skip ?_; simp only [thenQ, blockQ]
        refine awp_region rfl ?_; simp only [RR, seval]
        simp only [hik, thenQ, blockQ, RR, seval]
        rw [IntWalk.i64_in _ (by omega)]
        refine hK2 (l.length - (k + 1)) _ _ (by omega) ⟨k + 1, rfl, by omega, rfl, h0, f1, by rw [hp, Option.map_map]; congr 1; funext y; simp only [Function.comp]; omega⟩
    · refine awp_exit ?_; simp only [thenQ, blockQ, reduceIte, Nat.reduceEqDiff]
      have hknk : k = l.length := by have := of_decide_eq_false hc; omega
      clear hc
      subst hknk
      rw [List.drop_length] at hp
      exact hK _ _ (by rw [hp]; rfl)
  · rintro fr H h0
    refine awp_seq_k fun K hK => ?_; refine awp_region rfl ?_; simp only [RR, seval]
    refine hK _ _ ?_; clear hK K
    refine awp_ret ?_; simp only [thenQ, blockQ, bodyQ, aresult, ares, argF, RR, seval]; refine Gives.pure ?_
    rw [h0]; rfl
theorem Names_con (f : Fu) (h : f.params.length ≤ 1000000) (h2 : f.locs.length ≤ 1000000) : PCon env 77 [.agg f.row] (.isl 1 ((namesL f).map strRow)) := by
  refine con_of 10 [.tmp 2] Tryd.func77 rfl rfl rfl rfl ?_
  simp only [Fu.row]
  refine awp_cutK (fun fr H => ∃ b, fr 1 = .ptr 5 b 0 0 ∧ H b = some (.rows 5 [[.str f.name, .isl 1 (f.params.map strRow), .isl 1 (f.locs.map strRow), .bool f.word, .isl 5 (f.body.map Sm.row)]])) (fun K hK => ?_) ?_
  · refine awp_region rfl ?_; simp only [RR, seval]
    refine awpN_intro fun b hb => ?_; simp only [RR, seval]
    exact hK _ _ ⟨b, rfl, upd_same _ _ _⟩
  rintro fr H ⟨b, f1, hb⟩
  refine awp_cutK (fun fr H => OwnL 1 (fr 2) ((namesL f).map strRow) H) (fun K hK => ?_) ?_
  · refine awp_region_draw (fun x => x ≠ b) [(1, false), (2, false), (4, false), (5, false), (0, true), (3, true), (6, true), (7, true)] draws (by kernel_rfl) rfl ?_
    simp only [emit, markOf, f1, hb, awpL_entry, touch_ptr, RR, seval]
    refine awpB_own fun b0 hb0 => ?_
    have hne : b ≠ b0 := fun e => by rw [e, hb0] at hb; cases hb
    have hb' : (upd H b0 (some (.rows 1 []))) b = some (.rows 5 [[.str f.name, .isl 1 (f.params.map strRow), .isl 1 (f.locs.map strRow), .bool f.word, .isl 5 (f.body.map Sm.row)]]) := by simp only [upd, if_neg hne, hb]
    have hown : OwnO 1 (.osl 1 b0 0) [] (upd H b0 (some (.rows 1 []))) := ⟨b0, rfl, upd_same _ _ _⟩
    generalize upd H b0 (some (.rows 1 [])) = H1 at hb' hown ⊢
    simp only [oneN, awpL_entry, touch_ptr, RR, seval]
    refine awpA_ownO hown (by simp only [List.length_nil, List.length_map]; omega) (fun x hx => hown.far hb' (by decide) x hx) fun v2 H2 hv2 hk2 => ?_
    have hb2 := hk2 b _ hb' (hown.nb' hb' (by decide))
    simp only [oneN, RR, seval]
    refine awpA_ownO hv2 (by simp only [List.nil_append, List.length_map]; omega) (fun x hx => hv2.far hb2 (by decide) x hx) fun v3 H3 hv3 _ => ?_
    simp only [RR, seval]
    refine hK _ _ ?_
    simp only [upd, reduceIte, namesL, List.map_append]
    exact hv3.own
  rintro fr H hown
  refine awp_ret ?_
  simp only [thenQ, blockQ, bodyQ, aresult, ares, argF, RR, seval]
  exact hown.gives1 rfl
set_option maxHeartbeats 2000000 in
theorem exprs_con (n : Nat) : ∀ l : List Ex, szE l = n → n ≤ 1000000 → okE l → PCon env 87 [.isl 5 (l.map Ex.row)] (.isl 3 ((usesE l).map Us.row)) := by
  induction n using Nat.strongRecOn with
  | _ n ih =>
    intro l hn hbd hok
    have hfit : l.length ≤ 9223372036854775807 := hok.fit
    refine con_of 64 [.tmp 2] Tryd.func87 rfl rfl rfl rfl ?_
    refine awp_seq_k fun K hK => ?_; refine awp_region rfl ?_; simp only [RR, seval]
    refine hK _ _ ?_; clear hK K
    refine awp_seq_k fun K hK => ?_; refine awp_region rfl ?_; simp only [RR, seval]
    refine hK _ _ ?_; clear hK K
    refine awp_cutK (fun fr H => OwnL 3 (fr 3) ((usesE l).map Us.row) H) (fun K hK => ?_) ?_
    · refine awp_seq_k fun K hK => ?_; refine awp_region rfl ?_; simp only [RR, seval]
      refine hK _ _ ?_; clear hK K
      refine awp_block ?_
      refine awp_loopK (fun mm fr H => ∃ k : Nat, mm = l.length - k ∧ k ≤ l.length ∧ fr 4 = .int .i64 k ∧ fr 0 = .isl 5 (l.map Ex.row) ∧ OwnL 3 (fr 3) ((usesE (l.take k)).map Us.row) H) (l.length) ⟨0, rfl, Nat.zero_le _, rfl, rfl, .inl ⟨rfl, by simp [usesE, usesS]⟩⟩ ?_
      rintro mm fr H ⟨k, rfl, hkk, hik, h0, hown⟩ K2 hK2
      refine awp_seq ?_
      refine awp_seq_k fun K hK => ?_; refine awp_region rfl ?_; simp only [RR, seval]
      simp only [hik, h0,List.length_map, RR, seval]
      refine hK _ _ ?_; clear hK K
      refine awp_if _ rfl (fun hc => ?_) (fun hc => ?_)
      · have hltk : k < l.length := by have := of_decide_eq_true hc; omega
        clear hc
        refine awp_skip ?_; simp only [thenQ, blockQ]
        refine awp_seq ?_
        refine awp_block ?_
        have hg := getE (List.getElem?_eq_getElem hltk)
        have hmem := List.getElem_mem hltk
        have hoke := hok.all _ hmem
        have hsz := szE_mem hmem
        have htk := usesE_take hltk
        have hlt1 := usesE_len _ (l.take k) rfl
        have hlt2 := szE_take l k
        have hul := useX_len l[k]
        generalize l[k] = e at hg htk hoke hsz hul
        have hse := e.sz_eq
        have hkl := usesE_len _ e.kids rfl
        have hfk : e.kids.length ≤ 9223372036854775807 := hoke.kids.fit
        refine awp_cutK (fun fr H => fr 0 = .isl 5 (l.map Ex.row) ∧ OwnL 3 (fr 3) ((usesE (l.take k) ++ useX e).map Us.row) H ∧ fr 4 = .int .i64 k) (fun K hK => ?_) ?_
        · refine awp_seq_k fun K hK => ?_; refine awp_region rfl ?_; simp only [RR, seval]
          simp only [h0, hik, hg, RR, seval]
          refine hK _ _ ?_; clear hK K
          refine awp_block ?_
          refine awp_seq_k fun K hK => ?_; refine awp_region rfl ?_; simp only [RR, seval]
          refine hK _ _ ?_; clear hK K
          have hb32 : (((usesE (l.take k)).map Us.row).length + 1) * 32 ≤ 140737488355328 := by rw [List.length_map]; omega
          by_cases k2 : e.kind = 2
          · refine awp_if true (congrArg AV.bool (decide_eq_true k2)) (fun _ => ?_) (fun hc => by cases hc)
            refine awp_region rfl ?_; simp only [RR, seval]
            simp only [h0, hik, hg, RR, seval]
            refine awpB_sealed ?_
            simp only [RR, seval]
            refine awpA_own hown hb32 (fun _ => trivial) fun v' H' hv' _ => ?_
            simp only [RR, seval]
            refine hK _ _ ⟨h0, ?_, hik⟩
            rw [show useX e = [⟨e.name, 1, 0⟩] by simp [useX, k2], List.map_append]; exact hv'
          refine awp_if false (congrArg AV.bool (decide_eq_false k2)) (fun hc => by cases hc) (fun _ => ?_)
          refine awp_seq_k fun K hK => ?_; refine awp_region rfl ?_; simp only [RR, seval]
          refine hK _ _ ?_; clear hK K
          by_cases k3 : e.kind = 3
          · refine awp_if true (congrArg AV.bool (decide_eq_true k3)) (fun _ => ?_) (fun hc => by cases hc)
            refine awp_region rfl ?_; simp only [RR, seval]
            simp only [h0, hik, hg, RR, seval]
            refine awpB_sealed ?_
            simp only [RR, seval]
            refine awpA_own hown hb32 (fun _ => trivial) fun v' H' hv' _ => ?_
            simp only [RR, seval]
            refine hK _ _ ⟨h0, ?_, hik⟩
            rw [show useX e = [⟨e.name, 3, 0⟩] by simp [useX, k3], List.map_append]; exact hv'
          refine awp_if false (congrArg AV.bool (decide_eq_false k3)) (fun hc => by cases hc) (fun _ => ?_)
          refine awp_seq_k fun K hK => ?_; refine awp_region rfl ?_; simp only [RR, seval]
          refine hK _ _ ?_; clear hK K
          by_cases k4 : e.kind = 4
          · refine awp_if true (congrArg AV.bool (decide_eq_true k4)) (fun _ => ?_) (fun hc => by cases hc)
            refine awp_region_draw (fun _ => True) [(0, false), (1, true), (2, true), (3, true), (4, true), (5, true), (6, true), (7, true), (8, true), (9, true), (10, true), (11, true), (12, true), (13, true), (14, true), (15, true)] draws (by kernel_rfl) rfl ?_
            simp only [emit, markOf, h0, hik, hg, awpL_entry, touch_ipt, RR, seval]
            refine awpB_sealed ?_
            simp only [List.length_map, awpL_entry, touch_ipt, RR, seval]
            refine awpA_own hown hb32 (fun _ => trivial) fun v' H' hv' _ => ?_
            simp only [RR, seval]
            refine hK _ _ ⟨h0, ?_, hik⟩
            rw [show useX e = [⟨e.name, 4, e.kids.length⟩] by simp [useX, k4], List.map_append]; exact hv'
          refine awp_if false (congrArg AV.bool (decide_eq_false k4)) (fun hc => by cases hc) (fun _ => ?_)
          refine awp_skip ?_; simp only [thenQ, blockQ]
          refine hK _ _ ⟨h0, ?_, hik⟩
          rw [show useX e = [] by simp [useX, k2, k3, k4], List.append_nil]; exact hown
        · rintro fr H ⟨h0, hown, hik⟩
          refine awp_region rfl ?_
          simp only [h0, hik, hg, RR, seval]
          refine awpC_pure' (ih _ (by omega) e.kids rfl (by omega) hoke.kids) ?_; simp only [RR, seval]
          simp only [oneU, RR, seval]
          refine awpA_own hown (by simp only [List.length_map, List.length_append]; omega) (fun _ => trivial) fun v' H' hv' _ => ?_
          simp only [thenQ, blockQ, RR, seval]
          refine awp_region rfl ?_; simp only [RR, seval]
          simp only [hik, thenQ, blockQ, RR, seval]
          rw [IntWalk.i64_in _ (by omega)]
          refine hK2 (l.length - (k + 1)) _ _ (by omega) ⟨k + 1, rfl, by omega, rfl, h0, by rw [htk, ← List.append_assoc, List.map_append]; exact hv'⟩
      · refine awp_exit ?_; simp only [thenQ, blockQ, reduceIte, Nat.reduceEqDiff]
        have hknk : k = l.length := by have := of_decide_eq_false hc; omega
        clear hc
        subst hknk
        rw [List.take_length] at hown
        exact hK _ _ hown
    · rintro fr H hown
      refine awp_seq_k fun K hK => ?_; refine awp_region rfl ?_; simp only [RR, seval]
      refine hK _ _ ?_; clear hK K
      refine awp_ret ?_
      simp only [thenQ, blockQ, bodyQ, aresult, ares, argF, RR, seval]
      exact hown.gives1 rfl
set_option maxHeartbeats 2000000 in
theorem Uses_con (n : Nat) : ∀ l : List Sm, szS l = n → n ≤ 1000000 → okS l → PCon env 78 [.isl 5 (l.map Sm.row)] (.isl 3 ((usesS l).map Us.row)) := by
  induction n using Nat.strongRecOn with
  | _ n ih =>
    intro l hn hbd hok
    have hfit : l.length ≤ 9223372036854775807 := hok.fit
    refine con_of 80 [.tmp 2] Tryd.func78 rfl rfl rfl rfl ?_
    refine awp_seq_k fun K hK => ?_; refine awp_region rfl ?_; simp only [RR, seval]
    refine hK _ _ ?_; clear hK K
    refine awp_seq_k fun K hK => ?_; refine awp_region rfl ?_; simp only [RR, seval]
    refine hK _ _ ?_; clear hK K
    refine awp_cutK (fun fr H => OwnL 3 (fr 3) ((usesS l).map Us.row) H) (fun K hK => ?_) ?_
    · refine awp_seq_k fun K hK => ?_; refine awp_region rfl ?_; simp only [RR, seval]
      refine hK _ _ ?_; clear hK K
      refine awp_block ?_
      refine awp_loopK (fun mm fr H => ∃ k : Nat, mm = l.length - k ∧ k ≤ l.length ∧ fr 4 = .int .i64 k ∧ fr 0 = .isl 5 (l.map Sm.row) ∧ OwnL 3 (fr 3) ((usesS (l.take k)).map Us.row) H) (l.length) ⟨0, rfl, Nat.zero_le _, rfl, rfl, .inl ⟨rfl, by simp [usesE, usesS]⟩⟩ ?_
      rintro mm fr H ⟨k, rfl, hkk, hik, h0, hown⟩ K2 hK2
      refine awp_seq ?_
      refine awp_seq_k fun K hK => ?_; refine awp_region rfl ?_; simp only [RR, seval]
      simp only [hik, h0,List.length_map, RR, seval]
      refine hK _ _ ?_; clear hK K
      refine awp_if _ rfl (fun hc => ?_) (fun hc => ?_)
      · have hltk : k < l.length := by have := of_decide_eq_true hc; omega
        clear hc
        refine awp_skip ?_; simp only [thenQ, blockQ]
        refine awp_seq ?_
        refine awp_block ?_
        have hg := getS (List.getElem?_eq_getElem hltk)
        have hmem := List.getElem_mem hltk
        have hoke := hok.all _ hmem
        have hsz := szS_mem hmem
        have htk := usesS_take hltk
        have hlt1 := usesS_len _ (l.take k) rfl
        have hlt2 := szS_take l k
        have hul := useS_len l[k]
        generalize l[k] = e at hg htk hoke hsz hul
        have hse := e.sz_eq
        have hkl := usesE_len _ e.es rfl
        have hkt := usesS_len _ e.thn rfl
        have hke := usesS_len _ e.els rfl
        refine awp_cutK (fun fr H => fr 0 = .isl 5 (l.map Sm.row) ∧ OwnL 3 (fr 3) ((usesS (l.take k) ++ useS e).map Us.row) H ∧ fr 4 = .int .i64 k) (fun K hK => ?_) ?_
        · refine awp_seq_k fun K hK => ?_; refine awp_region rfl ?_; simp only [RR, seval]
          simp only [h0, hik, hg, RR, seval]
          refine hK _ _ ?_; clear hK K
          refine awp_block ?_
          refine awp_seq_k fun K hK => ?_; refine awp_region rfl ?_; simp only [RR, seval]
          refine hK _ _ ?_; clear hK K
          have hb32 : (((usesS (l.take k)).map Us.row).length + 1) * 32 ≤ 140737488355328 := by rw [List.length_map]; omega
          by_cases k2 : e.kind = 1
          · refine awp_if true (congrArg AV.bool (decide_eq_true k2)) (fun _ => ?_) (fun hc => by cases hc)
            refine awp_region rfl ?_; simp only [RR, seval]
            simp only [h0, hik, hg, RR, seval]
            refine awpB_sealed ?_
            simp only [RR, seval]
            refine awpA_own hown hb32 (fun _ => trivial) fun v' H' hv' _ => ?_
            simp only [RR, seval]
            refine hK _ _ ⟨h0, ?_, hik⟩
            rw [show useS e = [⟨e.name, 1, 0⟩] by simp [useS, k2], List.map_append]; exact hv'
          refine awp_if false (congrArg AV.bool (decide_eq_false k2)) (fun hc => by cases hc) (fun _ => ?_)
          refine awp_seq_k fun K hK => ?_; refine awp_region rfl ?_; simp only [RR, seval]
          refine hK _ _ ?_; clear hK K
          by_cases k3 : e.kind = 2
          · refine awp_if true (congrArg AV.bool (decide_eq_true k3)) (fun _ => ?_) (fun hc => by cases hc)
            refine awp_region rfl ?_; simp only [RR, seval]
            simp only [h0, hik, hg, RR, seval]
            refine awpB_sealed ?_
            simp only [RR, seval]
            refine awpA_own hown hb32 (fun _ => trivial) fun v' H' hv' _ => ?_
            simp only [RR, seval]
            refine hK _ _ ⟨h0, ?_, hik⟩
            rw [show useS e = [⟨e.name, 3, 0⟩] by simp [useS, k3], List.map_append]; exact hv'
          refine awp_if false (congrArg AV.bool (decide_eq_false k3)) (fun hc => by cases hc) (fun _ => ?_)
          refine awp_seq_k fun K hK => ?_; refine awp_region rfl ?_; simp only [RR, seval]
          refine hK _ _ ?_; clear hK K
          by_cases k4 : e.kind = 6
          · refine awp_if true (congrArg AV.bool (decide_eq_true k4)) (fun _ => ?_) (fun hc => by cases hc)
            refine awp_region_draw (fun _ => True) [(0, false), (1, true), (2, true), (3, true), (4, true), (5, true), (6, true), (7, true), (8, true), (9, true), (10, true), (11, true), (12, true), (13, true), (14, true), (15, true)] draws (by kernel_rfl) rfl ?_
            simp only [emit, markOf, h0, hik, hg, awpL_entry, touch_ipt, RR, seval]
            refine awpB_sealed ?_
            simp only [List.length_map, awpL_entry, touch_ipt, RR, seval]
            refine awpA_own hown hb32 (fun _ => trivial) fun v' H' hv' _ => ?_
            simp only [RR, seval]
            refine hK _ _ ⟨h0, ?_, hik⟩
            rw [show useS e = [⟨e.name, 4, e.es.length⟩] by simp [useS, k4], List.map_append]; exact hv'
          refine awp_if false (congrArg AV.bool (decide_eq_false k4)) (fun hc => by cases hc) (fun _ => ?_)
          refine awp_skip ?_; simp only [thenQ, blockQ]
          refine hK _ _ ⟨h0, ?_, hik⟩
          rw [show useS e = [] by simp [useS, k2, k3, k4], List.append_nil]; exact hown
        · rintro fr H ⟨h0, hown, hik⟩
          refine awp_seq_k fun K hK => ?_; refine awp_region rfl ?_; simp only [RR, seval]
          simp only [h0, hik, hg, RR, seval]
          refine awpC_pure' (exprs_con _ e.es rfl (by omega) hoke.es) ?_; simp only [RR, seval]
          simp only [oneU, RR, seval]
          refine awpA_own hown (by simp only [List.length_map, List.length_append]; omega) (fun _ => trivial) fun v' H' hv' _ => ?_
          simp only [RR, seval]
          refine hK _ _ ?_; clear hK K
          rw [← List.map_append] at hv'
          refine awp_seq_k fun K hK => ?_; refine awp_region rfl ?_; simp only [RR, seval]
          simp only [h0, hik, hg, RR, seval]
          refine awpC_pure' (ih _ (by omega) e.thn rfl (by omega) hoke.thn) ?_; simp only [RR, seval]
          simp only [oneU, RR, seval]
          refine awpA_own hv' (by simp only [List.length_map, List.length_append]; omega) (fun _ => trivial) fun v2 H2 hv2 _ => ?_
          simp only [RR, seval]
          refine hK _ _ ?_; clear hK K
          rw [← List.map_append] at hv2
          refine awp_region rfl ?_
          simp only [h0, hik, hg, RR, seval]
          refine awpC_pure' (ih _ (by omega) e.els rfl (by omega) hoke.els) ?_; simp only [RR, seval]
          simp only [oneU, RR, seval]
          refine awpA_own hv2 (by simp only [List.length_map, List.length_append]; omega) (fun _ => trivial) fun v3 H3 hv3 _ => ?_
          simp only [thenQ, blockQ, RR, seval]
          refine awp_region rfl ?_; simp only [RR, seval]
          simp only [hik, thenQ, blockQ, RR, seval]
          rw [IntWalk.i64_in _ (by omega)]
          refine hK2 (l.length - (k + 1)) _ _ (by omega) ⟨k + 1, rfl, by omega, rfl, h0, by rw [htk]; simp only [← List.append_assoc]; rw [List.map_append]; exact hv3⟩
      · refine awp_exit ?_; simp only [thenQ, blockQ, reduceIte, Nat.reduceEqDiff]
        have hknk : k = l.length := by have := of_decide_eq_false hc; omega
        clear hc
        subst hknk
        rw [List.take_length] at hown
        exact hK _ _ hown
    · rintro fr H hown
      refine awp_seq_k fun K hK => ?_; refine awp_region rfl ?_; simp only [RR, seval]
      refine hK _ _ ?_; clear hK K
      refine awp_ret ?_
      simp only [thenQ, blockQ, bodyQ, aresult, ares, argF, RR, seval]
      exact hown.gives1 rfl
end Go.Proofs.YtefjogkgeelbdaaDoor

namespace Go.Al
structure Pg.few (p : Pg) : Prop where
  ok : p.ok
  v : p.vars.length ≤ 10000
  a : p.arrs.length ≤ 10000
  f : p.funs.length ≤ 10000
  fs : ∀ f ∈ p.funs, f.params.length ≤ 10000 ∧ f.locs.length ≤ 10000 ∧ szS f.body ≤ 10000
theorem nodup_place : ∀ l : List Str, l.Nodup ↔ ∀ (i : Nat) (h : i < l.length), placeN l l[i] = some i
  | [] => by simp
  | x :: l => by
    rw [List.nodup_cons, nodup_place l]
    constructor
    · rintro ⟨h1, h2⟩ i hi
      cases i with
      | zero => simp [placeN]
      | succ i =>
        have hi' : i < l.length := by simpa using hi
        have hne : ¬ x = l[i] := fun e => h1 (e ▸ List.getElem_mem hi')
        simp only [List.getElem_cons_succ, placeN, if_neg hne, h2 i hi', Option.map_some]
    · intro h
      refine ⟨fun hx => ?_, fun i hi => ?_⟩
      · obtain ⟨i, hi, e⟩ := List.getElem_of_mem hx
        have := h (i + 1) (by simpa using hi)
        simp [placeN, e] at this
      · have := h (i + 1) (by simpa using hi)
        simp only [List.getElem_cons_succ, placeN] at this
        split at this
        · simp at this
        · rw [Option.map_eq_some_iff] at this
          obtain ⟨j, hj, e⟩ := this
          rw [hj]; congr 1; omega
def okUse (p : Pg) (i : Nat) (u : Us) : Bool :=
  !((decide (u.kind = 1) && !decide ((findF p i u.name).1 = 1) && !decide ((findF p i u.name).1 = 2)) || (decide (u.kind = 3) && !decide ((findF p i u.name).1 = 3)) ||
    (decide (u.kind = 4) && (!decide ((findF p i u.name).1 = 4) || decide ((i : Int) ≤ (findF p i u.name).2))))
def namesFrom (p : Pg) : Nat → List Fu → Bool
  | _, [] => true
  | i, f :: l => decide (namesL f).Nodup && (usesS f.body).all (okUse p i) && namesFrom p (i + 1) l
def namesB (p : Pg) : Bool := decide (globL p).Nodup && namesFrom p 0 p.funs
theorem globL_len (p : Pg) : (globL p).length = p.vars.length + p.arrs.length + p.funs.length := by simp [globL]; omega
theorem findG_bd (p : Pg) (s : Str) (h : (globL p).length ≤ 1000000) : -1 ≤ (findG p s).2 ∧ (findG p s).2 ≤ 1000000 ∧ 0 ≤ (findG p s).1 ∧ (findG p s).1 ≤ 4 := by
  unfold findG
  split
  · simp
  · rename_i k hk
    have := (placeN_lt _ _ _ hk).1
    split
    · simp only; omega
    · split <;> simp only <;> omega
theorem findF_bd (p : Pg) (i : Nat) (s : Str) (h : (globL p).length ≤ 1000000) (h2 : ∀ f ∈ p.funs, (namesL f).length ≤ 1000000) : -1 ≤ (findF p i s).2 ∧ (findF p i s).2 ≤ 1000000 ∧ 0 ≤ (findF p i s).1 ∧ (findF p i s).1 ≤ 4 := by
  unfold findF
  split
  · rename_i k hk
    rw [Option.bind_eq_some_iff] at hk
    obtain ⟨f, hf, hk⟩ := hk
    have := (placeN_lt _ _ _ hk).1
    have := h2 f (List.mem_of_getElem? hf)
    simp only; omega
  · exact findG_bd p s h
theorem Pg.few.gl {p : Pg} (h : p.few) : (globL p).length ≤ 30000 := by
  rw [globL_len]; have := h.v; have := h.a; have := h.f; omega
theorem Pg.few.nl {p : Pg} (h : p.few) : ∀ f ∈ p.funs, (namesL f).length ≤ 20000 := fun f hf => by
  have := h.fs f hf; simp only [namesL, List.length_append]; omega
end Go.Al
namespace Go.Proofs.YtefjogkgeelbdaaDoor
open Go.Al
theorem Globals_own (p : Pg) (hp : p.few) : MCon env 76 [p.av] 1 ((globL p).map strRow) := by
  have gv := hp.v
  have ga := hp.a
  have gf := hp.f
  have hG : globL p = p.vars ++ p.arrs.map Ar.name ++ p.funs.map Fu.name := rfl
  generalize globL p = G at hG ⊢
  obtain ⟨vs, aa, fs⟩ := p
  simp only at gv ga gf hG
  refine con_of 43 [.tmp 2] Tryd.func76 rfl rfl rfl rfl ?_
  simp only [Pg.av, Pg.row]
  refine awp_cutK (fun fr H => ∃ b, fr 1 = .ptr 3 b 0 0 ∧ H b = some (.rows 3 [[.isl 1 (vs.map strRow), .isl 2 (aa.map Ar.row), .isl 5 (fs.map Fu.row)]])) (fun K hK => ?_) ?_
  · refine awp_region rfl ?_; simp only [RR, seval]
    refine awpN_intro fun b hb => ?_; simp only [RR, seval]
    exact hK _ _ ⟨b, rfl, upd_same _ _ _⟩
  rintro fr H ⟨b, f1, hb⟩
  refine awp_cutK (fun fr H => OwnO 1 (fr 3) (vs.map strRow) H ∧ fr 1 = .ptr 3 b 0 0 ∧ H b = some (.rows 3 [[.isl 1 (vs.map strRow), .isl 2 (aa.map Ar.row), .isl 5 (fs.map Fu.row)]])) (fun K hK => ?_) ?_
  · refine awp_region rfl ?_
    simp only [f1, hb, RR, seval]
    refine awpB_own fun b0 hb0 => ?_
    have hne : b ≠ b0 := fun e => by rw [e, hb0] at hb; cases hb
    have hb' : (upd H b0 (some (.rows 1 []))) b = some (.rows 3 [[.isl 1 (vs.map strRow), .isl 2 (aa.map Ar.row), .isl 5 (fs.map Fu.row)]]) := by simp only [upd, if_neg hne, hb]
    have hown : OwnO 1 (.osl 1 b0 0) [] (upd H b0 (some (.rows 1 []))) := ⟨b0, rfl, upd_same _ _ _⟩
    generalize upd H b0 (some (.rows 1 [])) = H1 at hb' hown ⊢
    simp only [f1, hb', oneN, RR, seval]
    refine awpA_ownO hown (by simp only [List.length_nil, List.length_map]; omega) (fun _ _ => trivial) fun v2 H2 hv2 hk2 => ?_
    simp only [RR, seval]
    exact hK _ _ ⟨hv2, f1, hk2 b _ hb' (hown.nb' hb' (by decide))⟩
  rintro fr H ⟨hown, f1, hb⟩
  refine awp_cutK (fun fr H => OwnO 1 (fr 3) ((vs ++ aa.map Ar.name).map strRow) H ∧ fr 1 = .ptr 3 b 0 0 ∧ H b = some (.rows 3 [[.isl 1 (vs.map strRow), .isl 2 (aa.map Ar.row), .isl 5 (fs.map Fu.row)]])) (fun K hK => ?_) ?_
  · refine awp_seq_k fun K hK => ?_; refine awp_region rfl ?_; simp only [RR, seval]
    refine hK _ _ ?_; clear hK K
    refine awp_block ?_
    refine awp_loopK (fun mm fr H => ∃ k : Nat, mm = aa.length - k ∧ k ≤ aa.length ∧ fr 4 = .int .i64 k ∧ OwnO 1 (fr 3) ((vs ++ (aa.take k).map Ar.name).map strRow) H ∧ fr 1 = .ptr 3 b 0 0 ∧ H b = some (.rows 3 [[.isl 1 (vs.map strRow), .isl 2 (aa.map Ar.row), .isl 5 (fs.map Fu.row)]])) (aa.length) ⟨0, rfl, Nat.zero_le _, rfl, by simpa [upd] using hown, f1, hb⟩ ?_
    rintro mm fr H ⟨k, rfl, hkk, hik, hown, f1, hb⟩ K2 hK2
    refine awp_seq ?_
    refine awp_seq_k fun K hK => ?_; refine awp_region rfl ?_; simp only [RR, seval]
    simp only [hik, f1, hb,List.length_map, RR, seval]
    refine hK _ _ ?_; clear hK K
    refine awp_if _ rfl (fun hc => ?_) (fun hc => ?_)
    · have hltk : k < aa.length := by have := of_decide_eq_true hc; omega
      clear hc
      refine awp_skip ?_; simp only [thenQ, blockQ]
      refine awp_seq ?_
      refine awp_block ?_
      have hg := getA (List.getElem?_eq_getElem hltk)
      have htk : aa.take (k + 1) = aa.take k ++ [aa[k]] := List.take_succ_eq_append_getElem hltk
      generalize aa[k] = a at hg htk
      have htk2 : (vs ++ (aa.take (k + 1)).map Ar.name).map strRow = (vs ++ (aa.take k).map Ar.name).map strRow ++ [[.str a.name]] := by rw [htk]; simp [strRow]
      refine awp_region rfl ?_
      simp only [f1, hb, hik, hg, RR, seval]
      refine awpB_sealed ?_
      simp only [RR, seval]
      refine awpA_ownO hown (by simp only [List.length_map, List.length_append, List.length_cons, List.length_nil, List.length_take]; omega) (fun _ _ => trivial) fun v2 H2 hv2 hk2 => ?_
      simp only [thenQ, blockQ, RR, seval]
      have hb2 := hk2 b _ hb (hown.nb' hb (by decide))
      refine awp_region rfl ?_; simp only [RR, seval]
      simp only [hik, thenQ, blockQ, RR, seval]
      rw [IntWalk.i64_in _ (by omega)]
      refine hK2 (aa.length - (k + 1)) _ _ (by omega) ⟨k + 1, rfl, by omega, rfl, by rw [htk2]; exact hv2, f1, hb2⟩
    · refine awp_exit ?_; simp only [thenQ, blockQ, reduceIte, Nat.reduceEqDiff]
      have hknk : k = aa.length := by have := of_decide_eq_false hc; omega
      clear hc
      subst hknk
      rw [List.take_length] at hown
      exact hK _ _ ⟨hown, f1, hb⟩
  rintro fr H ⟨hown, f1, hb⟩
  refine awp_cutK (fun fr H => OwnO 1 (fr 3) (G.map strRow) H) (fun K hK => ?_) ?_
  · refine awp_seq_k fun K hK => ?_; refine awp_region rfl ?_; simp only [RR, seval]
    refine hK _ _ ?_; clear hK K
    refine awp_block ?_
    refine awp_loopK (fun mm fr H => ∃ k : Nat, mm = fs.length - k ∧ k ≤ fs.length ∧ fr 5 = .int .i64 k ∧ OwnO 1 (fr 3) ((vs ++ aa.map Ar.name ++ (fs.take k).map Fu.name).map strRow) H ∧ fr 1 = .ptr 3 b 0 0 ∧ H b = some (.rows 3 [[.isl 1 (vs.map strRow), .isl 2 (aa.map Ar.row), .isl 5 (fs.map Fu.row)]])) (fs.length) ⟨0, rfl, Nat.zero_le _, rfl, by simpa [upd] using hown, f1, hb⟩ ?_
    rintro mm fr H ⟨k, rfl, hkk, hik, hown, f1, hb⟩ K2 hK2
    refine awp_seq ?_
    refine awp_seq_k fun K hK => ?_; refine awp_region rfl ?_; simp only [RR, seval]
    simp only [hik, f1, hb,List.length_map, RR, seval]
    refine hK _ _ ?_; clear hK K
    refine awp_if _ rfl (fun hc => ?_) (fun hc => ?_)
    · have hltk : k < fs.length := by have := of_decide_eq_true hc; omega
      clear hc
      refine awp_skip ?_; simp only [thenQ, blockQ]
      refine awp_seq ?_
      refine awp_block ?_
      have hg := getF (List.getElem?_eq_getElem hltk)
      have htk : fs.take (k + 1) = fs.take k ++ [fs[k]] := List.take_succ_eq_append_getElem hltk
      generalize fs[k] = a at hg htk
      have htk2 : (vs ++ aa.map Ar.name ++ (fs.take (k + 1)).map Fu.name).map strRow = (vs ++ aa.map Ar.name ++ (fs.take k).map Fu.name).map strRow ++ [[.str a.name]] := by rw [htk]; simp [strRow]
      refine awp_region rfl ?_
      simp only [f1, hb, hik, hg, RR, seval]
      refine awpB_sealed ?_
      simp only [RR, seval]
      refine awpA_ownO hown (by simp only [List.length_map, List.length_append, List.length_cons, List.length_nil, List.length_take]; omega) (fun _ _ => trivial) fun v2 H2 hv2 hk2 => ?_
      simp only [thenQ, blockQ, RR, seval]
      have hb2 := hk2 b _ hb (hown.nb' hb (by decide))
      refine awp_region rfl ?_; simp only [RR, seval]
      simp only [hik, thenQ, blockQ, RR, seval]
      rw [IntWalk.i64_in _ (by omega)]
      refine hK2 (fs.length - (k + 1)) _ _ (by omega) ⟨k + 1, rfl, by omega, rfl, by rw [htk2]; exact hv2, f1, hb2⟩
    · refine awp_exit ?_; simp only [thenQ, blockQ, reduceIte, Nat.reduceEqDiff]
      have hknk : k = fs.length := by have := of_decide_eq_false hc; omega
      clear hc
      subst hknk
      rw [List.take_length, ← hG] at hown
      exact hK _ _ hown
  rintro fr H hown
  refine awp_seq_k fun K hK => ?_; refine awp_region rfl ?_; simp only [RR, seval]
  refine hK _ _ ?_; clear hK K
  refine awp_ret ?_
  simp only [thenQ, blockQ, bodyQ, aresult, ares, argF, RR, seval]
  exact MCon.gives hown.own
theorem Globals_con (p : Pg) (hp : p.few) : PCon env 76 [p.av] (.isl 1 ((globL p).map strRow)) := (Globals_own p hp).pure
theorem Find_con (p : Pg) (hp : p.few) (i : Nat) (hi : i < p.funs.length) (s : Str) : PCon env 79 [p.av, .int .i64 i, .str s] (.tup [.int .i64 (findF p i s).1, .int .i64 (findF p i s).2]) := by
  have gv := hp.v
  have ga := hp.a
  have gf := hp.f
  have hgl := globL_len p
  have hglob := Globals_con p hp
  have hplace := place_con (globL p) s (by simp only [fitL]; omega)
  have hgi := List.getElem?_eq_getElem hi
  have hfs := hp.fs _ (List.getElem_mem hi)
  have hF : findF p i s = match placeN (namesL p.funs[i]) s with | some k => (1, (k : Int)) | none => findG p s := by
    simp only [findF, hgi, Option.bind_some]
    all_goals (cases placeN (namesL p.funs[i]) s <;> rfl)
  have hGd : findG p s = match placeN (globL p) s with
    | none => (0, -1)
    | some k => if k < p.vars.length then (2, (k : Int)) else if k - p.vars.length < p.arrs.length then (3, ((k - p.vars.length : Nat) : Int)) else (4, ((k - p.vars.length - p.arrs.length : Nat) : Int)) := rfl
  have hnm := Names_con p.funs[i] (by omega) (by omega)
  have hpl := place_con (namesL p.funs[i]) s (by simp only [fitL, namesL, List.length_append]; omega)
  generalize p.funs[i] = g at hgi hF hnm hpl
  have hlen := fun k hk => (placeN_lt (globL p) s k hk).1
  generalize findF p i s = res at hF ⊢
  generalize globL p = G at *
  obtain ⟨vs, aa, fs⟩ := p
  simp only [Pg.av, Pg.row] at hglob ⊢
  simp only at gv ga gf hgi hgl hGd hi
  have hrow := getF hgi
  refine con_of 58 [.tmp 6, .tmp 7] Tryd.func79 rfl rfl rfl rfl ?_
  refine awp_cutK (fun fr H => ∃ b, fr 1 = .int .i64 i ∧ fr 2 = .str s ∧ fr 3 = .ptr 3 b 0 0 ∧ H b = some (.rows 3 [[.isl 1 (vs.map strRow), .isl 2 (aa.map Ar.row), .isl 5 (fs.map Fu.row)]])) (fun K hK => ?_) ?_
  · refine awp_region rfl ?_; simp only [RR, seval]
    refine awpN_intro fun b hb => ?_; simp only [RR, seval]
    exact hK _ _ ⟨b, rfl, rfl, rfl, upd_same _ _ _⟩
  rintro fr H ⟨b, f1, f2, f3, hb⟩
  have e1 : decide ((i : Int) < fs.length) = true := decide_eq_true (by omega)
  refine awp_cutK (fun fr H => res = findG ⟨vs, aa, fs⟩ s ∧ fr 2 = .str s ∧ fr 3 = .ptr 3 b 0 0 ∧ H b = some (.rows 3 [[.isl 1 (vs.map strRow), .isl 2 (aa.map Ar.row), .isl 5 (fs.map Fu.row)]])) (fun K hK => ?_) ?_
  · refine awp_seq_k fun K hK => ?_; refine awp_region rfl ?_; simp only [RR, seval]
    simp only [f1, f3, hb, List.length_map, e1, RR, seval]
    refine hK _ _ ?_; clear hK K
    refine awp_if true rfl (fun _ => ?_) (fun hc => by cases hc)
    refine awp_seq_k fun K hK => ?_; refine awp_region rfl ?_; simp only [RR, seval]
    simp only [f1, f2, f3, hb, hrow, RR, seval]
    refine awpC_pure' hnm ?_; simp only [RR, seval]
    simp only [f1, f2, f3, hb, hrow, RR, seval]
    refine awpC_pure' hpl ?_; simp only [RR, seval]
    refine hK _ _ ?_; clear hK K
    cases hpn : placeN (namesL g) s with
    | some k =>
      rw [hpn] at hF
      refine awp_seq_k fun K hK => ?_; refine awp_region rfl ?_; simp only [RR, seval]
      simp only [hpn, optI, RR, seval]
      refine hK _ _ ?_; clear hK K
      refine awp_if true rfl (fun _ => ?_) (fun hc => by cases hc)
      repeat' (first | (refine awp_seq_k fun K hK => ?_; refine awp_region rfl ?_; simp only [hpn, optI, RR, seval]; refine hK _ _ ?_; clear hK K) | (refine awp_seq ?_) | (refine awp_block ?_) | (refine awp_if true rfl (fun _ => ?_) (fun hc => by cases hc)) | (refine awp_if false rfl (fun hc => by cases hc) (fun _ => ?_)) | (refine awp_skip ?_; simp only [thenQ, blockQ]) | (refine awp_exit ?_; simp only [thenQ, blockQ, reduceIte, Nat.reduceEqDiff]) | (refine awp_region rfl ?_; simp only [hpn, optI, thenQ, blockQ, RR, seval]) | (refine awpG_splitN (fun h => ?_) (fun h => ?_) <;> simp only [h, hpn, optI, thenQ, blockQ, RR, seval]) | (refine awpG_split (fun h => ?_) (fun h => ?_) <;> simp only [h, hpn, optI, thenQ, blockQ, RR, seval]) | (refine awp_if _ rfl (fun h => ?_) (fun h => ?_)) | (refine awp_ret ?_; simp only [thenQ, blockQ, bodyQ, aresult, ares, argF, hpn, optI, RR, seval]; refine Gives.pure ?_))
      rw [hF]
    | none =>
      rw [hpn] at hF
      refine awp_seq_k fun K hK => ?_; refine awp_region rfl ?_; simp only [RR, seval]
      simp only [hpn, optI, RR, seval]
      refine hK _ _ ?_; clear hK K
      refine awp_if false rfl (fun hc => by cases hc) (fun _ => ?_)
      refine awp_skip ?_; simp only [thenQ, blockQ]
      exact hK _ _ ⟨hF, f2, f3, hb⟩
  rintro fr H ⟨hres, f2, f3, hb⟩
  rw [hGd] at hres
  refine awp_seq_k fun K hK => ?_; refine awp_region rfl ?_; simp only [RR, seval]
  simp only [f2, f3, hb, RR, seval]
  refine awpC_pure' hglob ?_; simp only [RR, seval]
  simp only [f2, f3, hb, RR, seval]
  refine awpC_pure' hplace ?_; simp only [RR, seval]
  refine hK _ _ ?_; clear hK K
  cases hpn : placeN G s with
  | none =>
    rw [hpn] at hres
    repeat' (first | (refine awp_seq_k fun K hK => ?_; refine awp_region rfl ?_; simp only [hpn, optI, RR, seval]; refine hK _ _ ?_; clear hK K) | (refine awp_seq ?_) | (refine awp_block ?_) | (refine awp_if true rfl (fun _ => ?_) (fun hc => by cases hc)) | (refine awp_if false rfl (fun hc => by cases hc) (fun _ => ?_)) | (refine awp_skip ?_; simp only [thenQ, blockQ]) | (refine awp_exit ?_; simp only [thenQ, blockQ, reduceIte, Nat.reduceEqDiff]) | (refine awp_region rfl ?_; simp only [hpn, optI, thenQ, blockQ, RR, seval]) | (refine awpG_splitN (fun h => ?_) (fun h => ?_) <;> simp only [h, hpn, optI, thenQ, blockQ, RR, seval]) | (refine awpG_split (fun h => ?_) (fun h => ?_) <;> simp only [h, hpn, optI, thenQ, blockQ, RR, seval]) | (refine awp_if _ rfl (fun h => ?_) (fun h => ?_)) | (refine awp_ret ?_; simp only [thenQ, blockQ, bodyQ, aresult, ares, argF, hpn, optI, RR, seval]; refine Gives.pure ?_))
    rw [hres]
  | some k =>
    rw [hpn] at hres
    simp only at hres
    have hk := hlen k hpn
    have w1 : IntKind.wrap .i64 ((k : Int) - vs.length) = (k : Int) - vs.length := IntWalk.i64_in _ (by omega)
    have w2 : IntKind.wrap .i64 ((k : Int) - vs.length - aa.length) = (k : Int) - vs.length - aa.length := IntWalk.i64_in _ (by omega)
    have d0 : decide ((k : Int) < 0) = false := decide_eq_false (by omega)
    by_cases c1 : k < vs.length
    · have d1 : decide ((k : Int) < vs.length) = true := decide_eq_true (by omega)
      repeat' (first | (refine awp_seq_k fun K hK => ?_; refine awp_region rfl ?_; simp only [hpn, optI, f3, hb, d0, d1, List.length_map, RR, seval]; refine hK _ _ ?_; clear hK K) | (refine awp_seq ?_) | (refine awp_block ?_) | (refine awp_if true rfl (fun _ => ?_) (fun hc => by cases hc)) | (refine awp_if false rfl (fun hc => by cases hc) (fun _ => ?_)) | (refine awp_skip ?_; simp only [thenQ, blockQ]) | (refine awp_exit ?_; simp only [thenQ, blockQ, reduceIte, Nat.reduceEqDiff]) | (refine awp_region rfl ?_; simp only [hpn, optI, f3, hb, d0, d1, List.length_map, thenQ, blockQ, RR, seval]) | (refine awpG_splitN (fun h => ?_) (fun h => ?_) <;> simp only [h, hpn, optI, f3, hb, d0, d1, List.length_map, thenQ, blockQ, RR, seval]) | (refine awpG_split (fun h => ?_) (fun h => ?_) <;> simp only [h, hpn, optI, f3, hb, d0, d1, List.length_map, thenQ, blockQ, RR, seval]) | (refine awp_if _ rfl (fun h => ?_) (fun h => ?_)) | (refine awp_ret ?_; simp only [thenQ, blockQ, bodyQ, aresult, ares, argF, hpn, optI, f3, hb, d0, d1, List.length_map, RR, seval]; refine Gives.pure ?_))
      rw [hres, if_pos c1]
    · have d1 : decide ((k : Int) < vs.length) = false := decide_eq_false (by omega)
      by_cases c2 : k - vs.length < aa.length
      · have d2 : decide ((k : Int) - vs.length < aa.length) = true := decide_eq_true (by omega)
        repeat' (first | (refine awp_seq_k fun K hK => ?_; refine awp_region rfl ?_; simp only [hpn, optI, f3, hb, d0, d1, d2, w1, List.length_map, RR, seval]; refine hK _ _ ?_; clear hK K) | (refine awp_seq ?_) | (refine awp_block ?_) | (refine awp_if true rfl (fun _ => ?_) (fun hc => by cases hc)) | (refine awp_if false rfl (fun hc => by cases hc) (fun _ => ?_)) | (refine awp_skip ?_; simp only [thenQ, blockQ]) | (refine awp_exit ?_; simp only [thenQ, blockQ, reduceIte, Nat.reduceEqDiff]) | (refine awp_region rfl ?_; simp only [hpn, optI, f3, hb, d0, d1, d2, w1, List.length_map, thenQ, blockQ, RR, seval]) | (refine awpG_splitN (fun h => ?_) (fun h => ?_) <;> simp only [h, hpn, optI, f3, hb, d0, d1, d2, w1, List.length_map, thenQ, blockQ, RR, seval]) | (refine awpG_split (fun h => ?_) (fun h => ?_) <;> simp only [h, hpn, optI, f3, hb, d0, d1, d2, w1, List.length_map, thenQ, blockQ, RR, seval]) | (refine awp_if _ rfl (fun h => ?_) (fun h => ?_)) | (refine awp_ret ?_; simp only [thenQ, blockQ, bodyQ, aresult, ares, argF, hpn, optI, f3, hb, d0, d1, d2, w1, List.length_map, RR, seval]; refine Gives.pure ?_))
        rw [hres, if_neg c1, if_pos c2]
        simp only
        rw [show ((k - vs.length : Nat) : Int) = (k : Int) - vs.length by omega]
      · have d2 : decide ((k : Int) - vs.length < aa.length) = false := decide_eq_false (by omega)
        refine awp_seq ?_
        refine awp_seq_k fun K hK => ?_; refine awp_region rfl ?_; simp only [RR, seval]
        simp only [hpn, optI, d0, RR, seval]
        refine hK _ _ ?_; clear hK K
        refine awp_if false rfl (fun hc => by cases hc) (fun _ => ?_)
        refine awp_skip ?_; simp only [thenQ, blockQ]
        refine awp_seq ?_
        refine awp_seq_k fun K hK => ?_; refine awp_region rfl ?_; simp only [RR, seval]
        simp only [hpn, optI, f3, hb, List.length_map, d1, RR, seval]
        refine hK _ _ ?_; clear hK K
        refine awp_if false rfl (fun hc => by cases hc) (fun _ => ?_)
        refine awp_skip ?_; simp only [thenQ, blockQ]
        refine awp_seq_k fun K hK => ?_; refine awp_region rfl ?_; simp only [RR, seval]
        simp only [hpn, optI, f3, hb, List.length_map, w1, RR, seval]
        refine hK _ _ ?_; clear hK K
        refine awp_seq ?_
        refine awp_seq_k fun K hK => ?_; refine awp_region rfl ?_; simp only [RR, seval]
        simp only [f3, hb, List.length_map, d2, RR, seval]
        refine hK _ _ ?_; clear hK K
        refine awp_if false rfl (fun hc => by cases hc) (fun _ => ?_)
        refine awp_skip ?_; simp only [thenQ, blockQ]
        refine awp_seq_k fun K hK => ?_
        refine awp_region_draw (fun x => x ≠ b) [(0, true), (1, true), (2, true), (3, true), (4, true), (5, true), (6, true)] draws (by kernel_rfl) rfl ?_
        simp only [emit, markOf, f3, hb, awpL_entry, touch_ptr, List.length_map, w2, RR, seval]
        refine hK _ _ ?_; clear hK K
        refine awp_ret ?_; simp only [thenQ, blockQ, bodyQ, aresult, ares, argF, RR, seval]; refine Gives.pure ?_
        rw [hres, if_neg c1, if_neg c2]
        simp only
        rw [show ((k - vs.length - aa.length : Nat) : Int) = (k : Int) - vs.length - aa.length by omega]
theorem unlike_con (l : List Str) (hl : fitL l) : PCon env 75 [.isl 1 (l.map strRow)] (.bool (decide l.Nodup)) := by
  have hfit : l.length ≤ 9223372036854775807 := hl
  refine con_of 18 [.tmp 2] Tryd.func75 rfl rfl rfl rfl ?_
  refine awp_seq_k fun K hK => ?_; refine awp_region rfl ?_; simp only [RR, seval]
  refine hK _ _ ?_; clear hK K
  refine awp_cutK (fun fr H => l.Nodup) (fun K hK => ?_) ?_
  · refine awp_seq_k fun K hK => ?_; refine awp_region rfl ?_; simp only [RR, seval]
    refine hK _ _ ?_; clear hK K
    refine awp_block ?_
    refine awp_loopK (fun mm fr H => ∃ k : Nat, mm = l.length - k ∧ k ≤ l.length ∧ fr 3 = .int .i64 k ∧ fr 0 = .isl 1 (l.map strRow) ∧ (∀ i (h : i < l.length), i < k → placeN l l[i] = some i)) (l.length) ⟨0, rfl, Nat.zero_le _, rfl, rfl, fun i _ h => by omega⟩ ?_
    rintro mm fr H ⟨k, rfl, hkk, hik, h0, hall⟩ K2 hK2
    refine awp_seq ?_
    refine awp_seq_k fun K hK => ?_; refine awp_region rfl ?_; simp only [RR, seval]
    simp only [hik, h0,List.length_map, RR, seval]
    refine hK _ _ ?_; clear hK K
    refine awp_if _ rfl (fun hc => ?_) (fun hc => ?_)
    · have hltk : k < l.length := by have := of_decide_eq_true hc; omega
      clear hc
      refine awp_skip ?_; simp only [thenQ, blockQ]
      refine awp_seq ?_
      refine awp_block ?_
      have hg := getN (List.getElem?_eq_getElem hltk)
      have hcon := place_con l l[k] hl
      refine awp_seq_k fun K hK => ?_; refine awp_region rfl ?_; simp only [RR, seval]
      simp only [h0, hik, hg, RR, seval]
      refine awpC_pure' hcon ?_; simp only [RR, seval]
      simp only [hik, RR, seval]
      refine hK _ _ ?_; clear hK K
      by_cases hpk : placeN l l[k] = some k
      · refine awp_if false (by rw [hpk]; simp [upd, ev, optI]) (fun hc => by cases hc) (fun _ => ?_)
        refine awp_skip ?_; simp only [thenQ, blockQ]
        refine awp_region rfl ?_; simp only [RR, seval]
        simp only [hik, thenQ, blockQ, RR, seval]
        rw [IntWalk.i64_in _ (by omega)]
        refine hK2 (l.length - (k + 1)) _ _ (by omega) ⟨k + 1, rfl, by omega, rfl, h0, fun i h hi => if e : i = k then by subst e; exact hpk else hall i h (by omega)⟩
      · have hne : ¬ optI (placeN l l[k]) = (k : Int) := fun e => by
          cases hh : placeN l l[k] with
          | none => rw [hh] at e; simp only [optI] at e; omega
          | some j => rw [hh] at e hpk; simp only [optI] at e; exact hpk (by congr 1; omega)
        refine awp_if true (by simp [upd, ev, hne]) (fun _ => ?_) (fun hc => by cases hc)
        repeat' (first | (refine awp_seq_k fun K hK => ?_; refine awp_region rfl ?_; simp only [h0, RR, seval]; refine hK _ _ ?_; clear hK K) | (refine awp_seq ?_) | (refine awp_block ?_) | (refine awp_if true rfl (fun _ => ?_) (fun hc => by cases hc)) | (refine awp_if false rfl (fun hc => by cases hc) (fun _ => ?_)) | (refine awp_skip ?_; simp only [thenQ, blockQ]) | (refine awp_exit ?_; simp only [thenQ, blockQ, reduceIte, Nat.reduceEqDiff]) | (refine awp_region rfl ?_; simp only [h0, thenQ, blockQ, RR, seval]) | (refine awpG_splitN (fun h => ?_) (fun h => ?_) <;> simp only [h, h0, thenQ, blockQ, RR, seval]) | (refine awpG_split (fun h => ?_) (fun h => ?_) <;> simp only [h, h0, thenQ, blockQ, RR, seval]) | (refine awp_if _ rfl (fun h => ?_) (fun h => ?_)) | (refine awp_ret ?_; simp only [thenQ, blockQ, bodyQ, aresult, ares, argF, h0, RR, seval]; refine Gives.pure ?_))
        congr 1
        symm
        exact decide_eq_false fun hnd => hpk ((nodup_place l).1 hnd k hltk)
    · refine awp_exit ?_; simp only [thenQ, blockQ, reduceIte, Nat.reduceEqDiff]
      have hknk : k = l.length := by have := of_decide_eq_false hc; omega
      clear hc
      subst hknk
      exact hK _ _ ((nodup_place l).2 fun i h => hall i h h)
  · rintro fr H h0
    refine awp_seq_k fun K hK => ?_; refine awp_region rfl ?_; simp only [RR, seval]
    refine hK _ _ ?_; clear hK K
    refine awp_ret ?_; simp only [thenQ, blockQ, bodyQ, aresult, ares, argF, RR, seval]; refine Gives.pure ?_
    congr 1
    exact (decide_eq_true h0).symm
end Go.Proofs.YtefjogkgeelbdaaDoor

namespace Go.Al
theorem getU {l : List Us} {i : Nat} {u : Us} (h : l[i]? = some u) : (l.map Us.row)[i]? = some [.str u.name, .int .i64 u.kind, .int .i64 u.num] := getRow _ h
/-- the number of arguments of a call is right -/
def numU (p : Pg) (i : Nat) (u : Us) : Bool := !decide (u.kind = 4) || (match p.funs[(findF p i u.name).2.toNat]? with | some g => decide ((g.params.length : Int) = u.num) | none => false)
def numsFrom (p : Pg) : Nat → List Fu → Bool
  | _, [] => true
  | i, f :: l => (usesS f.body).all (numU p i) && numsFrom p (i + 1) l
def mainS : Str := [109, 97, 105, 110]
def lastB (p : Pg) : Bool := match p.funs[p.funs.length - 1]? with | some g => decide (g.name = mainS) && decide (g.params.length = 0) && !g.word | none => false
def numsB (p : Pg) : Bool := numsFrom p 0 p.funs && lastB p
def checkI (p : Pg) : Int := if namesB p then (if numsB p then 0 else 1) else 4
theorem namesFrom_get (p : Pg) : ∀ (l : List Fu) (i : Nat), namesFrom p i l = true → ∀ (j : Nat) f, l[j]? = some f → (namesL f).Nodup ∧ (usesS f.body).all (okUse p (i + j)) = true
  | [], i, _, j, f, hf => by simp at hf
  | g :: l, i, h, j, f, hf => by
    simp only [namesFrom, Bool.and_eq_true, decide_eq_true_eq] at h
    cases j with
    | zero => simp at hf; subst hf; exact h.1
    | succ j =>
      have := namesFrom_get p l (i + 1) h.2 j f (by simpa using hf)
      rwa [show i + 1 + j = i + (j + 1) by omega] at this
theorem findF_call (p : Pg) (i : Nat) (s : Str) (h : (findF p i s).1 = 4) : 0 ≤ (findF p i s).2 ∧ (findF p i s).2 < p.funs.length := by
  unfold findF at *
  split at h
  · exact absurd h (by simp)
  · rename_i hn
    unfold findG at *
    split at h
    · exact absurd h (by decide)
    · rename_i k hk
      split at h
      · exact absurd h (by simp)
      · rename_i c1
        split at h
        · exact absurd h (by simp)
        · rename_i c2
          have := (placeN_lt _ _ _ hk).1
          rw [globL_len] at this
          rw [if_neg c1, if_neg c2]
          simp only; omega
end Go.Al
namespace Go.Proofs.YtefjogkgeelbdaaDoor
open Go.Al
set_option maxHeartbeats 4000000 in
theorem names16_con (p : Pg) (hp : p.few) : PCon env 62 [p.av] (.bool (namesB p)) := by
  have hok := hp.ok
  have ga := hp.f
  have hglob := Globals_con p hp
  have hun := unlike_con (globL p) (by have := hp.gl; simp only [fitL]; omega)
  have hfind := fun i hi s => Find_con p hp i hi s
  have hbd := fun i s => findF_bd p i s (by have := hp.gl; omega) (fun f hf => by have := hp.nl f hf; omega)
  have hN : namesB p = (decide (globL p).Nodup && namesFrom p 0 p.funs) := rfl
  have hok2 : ∀ (i : Nat) (u : Us), okUse p i u = !((decide (u.kind = 1) && !decide ((findF p i u.name).1 = 1) && !decide ((findF p i u.name).1 = 2)) || (decide (u.kind = 3) && !decide ((findF p i u.name).1 = 3)) || (decide (u.kind = 4) && (!decide ((findF p i u.name).1 = 4) || decide ((i : Int) ≤ (findF p i u.name).2)))) := fun _ _ => rfl
  have hstep : ∀ (i : Nat) (f : Fu) (l : List Fu), namesFrom p i (f :: l) = (decide (namesL f).Nodup && (usesS f.body).all (okUse p i) && namesFrom p (i + 1) l) := fun _ _ _ => rfl
  have hfs := hp.fs
  have hokf := hok.funs
  have hnil : ∀ i : Nat, namesFrom p i [] = true := fun _ => rfl
  generalize findF p = FF at *
  generalize namesFrom p = NF at *
  generalize okUse p = OU at *
  generalize globL p = G at *
  generalize namesB p = res at hN ⊢
  obtain ⟨vs, aa, fs⟩ := p
  simp only [Pg.av, Pg.row] at hglob hfind ⊢
  simp only at ga hfs hokf hN
  refine con_of 94 [.tmp 2] Tryd.func62 rfl rfl rfl rfl ?_
  refine awp_cutK (fun fr H => ∃ b, fr 1 = .ptr 3 b 0 0 ∧ H b = some (.rows 3 [[.isl 1 (vs.map strRow), .isl 2 (aa.map Ar.row), .isl 5 (fs.map Fu.row)]])) (fun K hK => ?_) ?_
  · refine awp_region rfl ?_; simp only [RR, seval]
    refine awpN_intro fun b hb => ?_; simp only [RR, seval]
    exact hK _ _ ⟨b, rfl, upd_same _ _ _⟩
  rintro fr H ⟨b, f1, hb⟩
  refine awp_seq ?_
  refine awp_seq_k fun K hK => ?_; refine awp_region rfl ?_; simp only [RR, seval]
  simp only [f1, hb, RR, seval]
  refine awpC_pure' hglob ?_; simp only [RR, seval]
  refine awpC_pure' hun ?_; simp only [RR, seval]
  refine hK _ _ ?_; clear hK K
  refine awp_if (!decide G.Nodup) rfl (fun hc => ?_) (fun hc => ?_)
  · repeat' (first | (refine awp_seq_k fun K hK => ?_; refine awp_region rfl ?_; simp only [f1, RR, seval]; refine hK _ _ ?_; clear hK K) | (refine awp_seq ?_) | (refine awp_block ?_) | (refine awp_if true rfl (fun _ => ?_) (fun hc => by cases hc)) | (refine awp_if false rfl (fun hc => by cases hc) (fun _ => ?_)) | (refine awp_skip ?_; simp only [thenQ, blockQ]) | (refine awp_exit ?_; simp only [thenQ, blockQ, reduceIte, Nat.reduceEqDiff]) | (refine awp_region rfl ?_; simp only [f1, thenQ, blockQ, RR, seval]) | (refine awpG_splitN (fun h => ?_) (fun h => ?_) <;> simp only [h, f1, thenQ, blockQ, RR, seval]) | (refine awpG_split (fun h => ?_) (fun h => ?_) <;> simp only [h, f1, thenQ, blockQ, RR, seval]) | (refine awp_if _ rfl (fun h => ?_) (fun h => ?_)) | (refine awp_ret ?_; simp only [thenQ, blockQ, bodyQ, aresult, ares, argF, f1, RR, seval]; refine Gives.pure ?_))
    rw [hN, show decide G.Nodup = false by simpa using hc]; rfl
  rw [show decide G.Nodup = true by simpa using hc, Bool.true_and] at hN
  refine awp_skip ?_; simp only [thenQ, blockQ]
  refine awp_cutK (fun fr H => res = true) (fun K hK => ?_) ?_
  · refine awp_seq_k fun K hK => ?_; refine awp_region rfl ?_; simp only [RR, seval]
    refine hK _ _ ?_; clear hK K
    refine awp_block ?_
    refine awp_loopK (fun mm fr H => ∃ k : Nat, mm = fs.length - k ∧ k ≤ fs.length ∧ fr 3 = .int .i64 k ∧ fr 1 = .ptr 3 b 0 0 ∧ H b = some (.rows 3 [[.isl 1 (vs.map strRow), .isl 2 (aa.map Ar.row), .isl 5 (fs.map Fu.row)]]) ∧ res = NF k (fs.drop k)) (fs.length) ⟨0, rfl, Nat.zero_le _, rfl, f1, hb, by rw [List.drop_zero]; exact hN⟩ ?_
    rintro mm fr H ⟨k, rfl, hkk, hik, f1, hb, hall⟩ K2 hK2
    refine awp_seq ?_
    refine awp_seq_k fun K hK => ?_; refine awp_region rfl ?_; simp only [RR, seval]
    simp only [hik, f1, hb,List.length_map, RR, seval]
    refine hK _ _ ?_; clear hK K
    refine awp_if _ rfl (fun hc => ?_) (fun hc => ?_)
    · have hltk : k < fs.length := by have := of_decide_eq_true hc; omega
      clear hc
      refine awp_skip ?_; simp only [thenQ, blockQ]
      refine awp_seq ?_
      refine awp_block ?_
      have hg := getF (List.getElem?_eq_getElem hltk)
      have hfsk := hfs _ (List.getElem_mem hltk)
      have hokk := hokf _ (List.getElem_mem hltk)
      rw [List.drop_eq_getElem_cons hltk, hstep] at hall
      generalize fs[k] = g at hg hfsk hokk hall
      have hnm := Names_con g (by omega) (by omega)
      have hun := unlike_con (namesL g) (by simp only [fitL, namesL, List.length_append]; omega)
      have hus := Uses_con _ g.body rfl (by omega) hokk.body
      have hul := usesS_len _ g.body rfl
      refine awp_seq ?_
      refine awp_seq_k fun K hK => ?_; refine awp_region rfl ?_; simp only [RR, seval]
      simp only [f1, hb, hik, hg, RR, seval]
      refine awpC_pure' hnm ?_; simp only [RR, seval]
      refine awpC_pure' hun ?_; simp only [RR, seval]
      refine hK _ _ ?_; clear hK K
      refine awp_if (!decide (namesL g).Nodup) rfl (fun hc => ?_) (fun hc => ?_)
      · repeat' (first | (refine awp_seq_k fun K hK => ?_; refine awp_region rfl ?_; simp only [f1, RR, seval]; refine hK _ _ ?_; clear hK K) | (refine awp_seq ?_) | (refine awp_block ?_) | (refine awp_if true rfl (fun _ => ?_) (fun hc => by cases hc)) | (refine awp_if false rfl (fun hc => by cases hc) (fun _ => ?_)) | (refine awp_skip ?_; simp only [thenQ, blockQ]) | (refine awp_exit ?_; simp only [thenQ, blockQ, reduceIte, Nat.reduceEqDiff]) | (refine awp_region rfl ?_; simp only [f1, thenQ, blockQ, RR, seval]) | (refine awpG_splitN (fun h => ?_) (fun h => ?_) <;> simp only [h, f1, thenQ, blockQ, RR, seval]) | (refine awpG_split (fun h => ?_) (fun h => ?_) <;> simp only [h, f1, thenQ, blockQ, RR, seval]) | (refine awp_if _ rfl (fun h => ?_) (fun h => ?_)) | (refine awp_ret ?_; simp only [thenQ, blockQ, bodyQ, aresult, ares, argF, f1, RR, seval]; refine Gives.pure ?_))
        rw [hall, show decide (namesL g).Nodup = false by simpa using hc]; rfl
      rw [show decide (namesL g).Nodup = true by simpa using hc, Bool.true_and] at hall
      refine awp_skip ?_; simp only [thenQ, blockQ]
      refine awp_seq_k fun K hK => ?_; refine awp_region rfl ?_; simp only [RR, seval]
      simp only [f1, hb, hik, hg, RR, seval]
      refine awpC_pure' hus ?_; simp only [RR, seval]
      refine hK _ _ ?_; clear hK K
      generalize usesS g.body = us at hall hul
      refine awp_seq_k fun K hK => ?_; refine awp_region rfl ?_; simp only [RR, seval]
      refine hK _ _ ?_; clear hK K
      refine awp_block ?_
      refine awp_loopK (fun mm fr H => ∃ j : Nat, mm = us.length - j ∧ j ≤ us.length ∧ fr 5 = .int .i64 j ∧ fr 1 = .ptr 3 b 0 0 ∧ H b = some (.rows 3 [[.isl 1 (vs.map strRow), .isl 2 (aa.map Ar.row), .isl 5 (fs.map Fu.row)]]) ∧ fr 3 = .int .i64 k ∧ fr 4 = .isl 3 (us.map Us.row) ∧ us.all (OU k) = (us.drop j).all (OU k)) (us.length) ⟨0, rfl, Nat.zero_le _, rfl, f1, hb, hik, rfl, by rw [List.drop_zero]⟩ ?_
      rintro mm fr H ⟨j, rfl, hkj, hij, f1, hb, hik, f4, hua⟩ K3 hK3
      refine awp_seq ?_
      refine awp_seq_k fun K hK => ?_; refine awp_region rfl ?_; simp only [RR, seval]
      simp only [hij, f4,List.length_map, RR, seval]
      refine hK _ _ ?_; clear hK K
      refine awp_if _ rfl (fun hc => ?_) (fun hc => ?_)
      · have hltj : j < us.length := by have := of_decide_eq_true hc; omega
        clear hc
        refine awp_skip ?_; simp only [thenQ, blockQ]
        refine awp_seq ?_
        refine awp_block ?_
        have hgu := getU (List.getElem?_eq_getElem hltj)
        rw [List.drop_eq_getElem_cons hltj, List.all_cons] at hua
        generalize us[j] = u at hgu hua
        have hfn := hfind k hltk u.name
        have hbk := hbd k u.name
        have hou := hok2 k u
        generalize FF k u.name = r at hfn hbk hou
        refine awp_seq_k fun K hK => ?_
        refine awp_region_draw (fun x => x ≠ b) [(0, true), (1, true), (2, true), (3, true), (4, true), (5, true), (6, true), (7, true), (8, true), (9, true), (10, true), (11, true), (12, true)] draws (by kernel_rfl) rfl ?_
        simp only [emit, markOf, f1, hb, hik, hij, f4, hgu, awpL_entry, touch_ptr, touch_ipt, RR, seval]
        refine awpC_pure' hfn ?_
        simp only [f1, hb, hik, hij, f4, hgu, awpL_entry, touch_ptr, touch_ipt, RR, seval]
        refine hK _ _ ?_; clear hK K
        refine awp_cutK (fun fr H => fr 93 = .bool (!OU k u) ∧ fr 1 = .ptr 3 b 0 0 ∧ H b = some (.rows 3 [[.isl 1 (vs.map strRow), .isl 2 (aa.map Ar.row), .isl 5 (fs.map Fu.row)]]) ∧ fr 3 = .int .i64 k ∧ fr 4 = .isl 3 (us.map Us.row) ∧ fr 5 = .int .i64 j) (fun K hK => ?_) ?_
        · refine awp_region rfl ?_; simp only [RR, seval]
          simp only [hik, hij, f4, hgu, RR, seval]
          repeat' ((first | refine awpG_splitN (fun h => ?_) (fun h => ?_) | refine awpG_split (fun h => ?_) (fun h => ?_)) <;> simp only [h, hik, hij, f4, hgu, RR, seval])
          all_goals
            refine hK _ _ ⟨?_, f1, hb, hik, f4, hij⟩
            clear hK hK2 hK3
            simp [upd, hou, *]
        · rintro fr H ⟨f93, f1, hb, hik, f4, hij⟩
          refine awp_if (!OU k u) f93 (fun hc => ?_) (fun hc => ?_)
          · repeat' (first | (refine awp_seq_k fun K hK => ?_; refine awp_region rfl ?_; simp only [f1, RR, seval]; refine hK _ _ ?_; clear hK K) | (refine awp_seq ?_) | (refine awp_block ?_) | (refine awp_if true rfl (fun _ => ?_) (fun hc => by cases hc)) | (refine awp_if false rfl (fun hc => by cases hc) (fun _ => ?_)) | (refine awp_skip ?_; simp only [thenQ, blockQ]) | (refine awp_exit ?_; simp only [thenQ, blockQ, reduceIte, Nat.reduceEqDiff]) | (refine awp_region rfl ?_; simp only [f1, thenQ, blockQ, RR, seval]) | (refine awpG_splitN (fun h => ?_) (fun h => ?_) <;> simp only [h, f1, thenQ, blockQ, RR, seval]) | (refine awpG_split (fun h => ?_) (fun h => ?_) <;> simp only [h, f1, thenQ, blockQ, RR, seval]) | (refine awp_if _ rfl (fun h => ?_) (fun h => ?_)) | (refine awp_ret ?_; simp only [thenQ, blockQ, bodyQ, aresult, ares, argF, f1, RR, seval]; refine Gives.pure ?_))
            rw [hall, hua, show OU k u = false by simpa using hc]; rfl
          · rw [show OU k u = true by simpa using hc, Bool.true_and] at hua
            refine awp_skip ?_; simp only [thenQ, blockQ]
            refine awp_region rfl ?_; simp only [RR, seval]
            simp only [hij, thenQ, blockQ, RR, seval]
            rw [IntWalk.i64_in _ (by omega)]
            refine hK3 (us.length - (j + 1)) _ _ (by omega) ⟨j + 1, rfl, by omega, rfl, f1, hb, hik, f4, hua⟩
      · refine awp_exit ?_; simp only [thenQ, blockQ, reduceIte, Nat.reduceEqDiff]
        have hknj : j = us.length := by have := of_decide_eq_false hc; omega
        clear hc
        subst hknj
        rw [List.drop_length] at hua
        rw [hua, List.all_nil, Bool.true_and] at hall
        try simp only [thenQ, blockQ]
        refine awp_region rfl ?_; simp only [RR, seval]
        simp only [hik, thenQ, blockQ, RR, seval]
        rw [IntWalk.i64_in _ (by omega)]
        refine hK2 (fs.length - (k + 1)) _ _ (by omega) ⟨k + 1, rfl, by omega, rfl, f1, hb, hall⟩
    · refine awp_exit ?_; simp only [thenQ, blockQ, reduceIte, Nat.reduceEqDiff]
      have hknk : k = fs.length := by have := of_decide_eq_false hc; omega
      clear hc
      subst hknk
      rw [List.drop_length, hnil] at hall
      exact hK _ _ hall
  · rintro fr H h0
    repeat' (first | (refine awp_seq_k fun K hK => ?_; refine awp_region rfl ?_; simp only [h0, RR, seval]; refine hK _ _ ?_; clear hK K) | (refine awp_seq ?_) | (refine awp_block ?_) | (refine awp_if true rfl (fun _ => ?_) (fun hc => by cases hc)) | (refine awp_if false rfl (fun hc => by cases hc) (fun _ => ?_)) | (refine awp_skip ?_; simp only [thenQ, blockQ]) | (refine awp_exit ?_; simp only [thenQ, blockQ, reduceIte, Nat.reduceEqDiff]) | (refine awp_region rfl ?_; simp only [h0, thenQ, blockQ, RR, seval]) | (refine awpG_splitN (fun h => ?_) (fun h => ?_) <;> simp only [h, h0, thenQ, blockQ, RR, seval]) | (refine awpG_split (fun h => ?_) (fun h => ?_) <;> simp only [h, h0, thenQ, blockQ, RR, seval]) | (refine awp_if _ rfl (fun h => ?_) (fun h => ?_)) | (refine awp_ret ?_; simp only [thenQ, blockQ, bodyQ, aresult, ares, argF, h0, RR, seval]; refine Gives.pure ?_))
    rfl
end Go.Proofs.YtefjogkgeelbdaaDoor

namespace Go.Al
def intRow (n : Int) : List AV := [.int .i64 n]
def intsRow (l : List Int) : List AV := [.isl 1 (l.map intRow)]
theorem getI {l : List Int} {i : Nat} {n : Int} (h : l[i]? = some n) : (l.map intRow)[i]? = some [.int .i64 n] := getRow _ h
theorem getII {l : List (List Int)} {i : Nat} {n : List Int} (h : l[i]? = some n) : (l.map intsRow)[i]? = some [.isl 1 (n.map intRow)] := getRow _ h
end Go.Al
namespace Go.Proofs.YtefjogkgeelbdaaDoor
open Go.Al
set_option maxHeartbeats 4000000 in
theorem numbers16_con (p : Pg) (hp : p.few) (hn : namesB p = true) (h1 : 1 ≤ p.funs.length) : PCon env 63 [p.av] (.bool (numsB p)) := by
  have hok := hp.ok
  have ga := hp.f
  have hfind := fun i hi s => Find_con p hp i hi s
  have hN : numsB p = (numsFrom p 0 p.funs && lastB p) := rfl
  have hL : lastB p = match p.funs[p.funs.length - 1]? with | some g => decide (g.name = mainS) && decide (g.params.length = 0) && !g.word | none => false := rfl
  have hok2 : ∀ (i : Nat) (u : Us), numU p i u = (!decide (u.kind = 4) || (match p.funs[(findF p i u.name).2.toNat]? with | some g => decide ((g.params.length : Int) = u.num) | none => false)) := fun _ _ => rfl
  have hstep : ∀ (i : Nat) (f : Fu) (l : List Fu), numsFrom p i (f :: l) = ((usesS f.body).all (numU p i) && numsFrom p (i + 1) l) := fun _ _ _ => rfl
  have hnil : ∀ i : Nat, numsFrom p i [] = true := fun _ => rfl
  have hcall : ∀ (i : Nat) f, p.funs[i]? = some f → ∀ u ∈ usesS f.body, u.kind = 4 → 0 ≤ (findF p i u.name).2 ∧ (findF p i u.name).2 < p.funs.length := fun i f hf u hu hk => by
    simp only [namesB, Bool.and_eq_true] at hn
    have h2 := (namesFrom_get p p.funs 0 hn.2 i f hf).2
    rw [List.all_eq_true, Nat.zero_add] at h2
    have h3 := h2 u hu
    refine findF_call p i u.name ?_
    simp only [okUse, hk, decide_true, Bool.true_and] at h3
    by_cases h4 : (findF p i u.name).1 = 4
    · exact h4
    · simp [h4] at h3
  have hfs := hp.fs
  have hokf := hok.funs
  generalize lastB p = LB at *
  generalize numsFrom p = NF at *
  generalize numU p = OU at *
  generalize findF p = FF at *
  generalize numsB p = res at hN ⊢
  obtain ⟨vs, aa, fs⟩ := p
  simp only [Pg.av, Pg.row] at hfind ⊢
  simp only at ga hfs hokf hN hcall hok2 hL h1
  refine con_of 81 [.tmp 2] Tryd.func63 rfl rfl rfl rfl ?_
  refine awp_cutK (fun fr H => ∃ b, fr 1 = .ptr 3 b 0 0 ∧ H b = some (.rows 3 [[.isl 1 (vs.map strRow), .isl 2 (aa.map Ar.row), .isl 5 (fs.map Fu.row)]])) (fun K hK => ?_) ?_
  · refine awp_region rfl ?_; simp only [RR, seval]
    refine awpN_intro fun b hb => ?_; simp only [RR, seval]
    exact hK _ _ ⟨b, rfl, upd_same _ _ _⟩
  rintro fr H ⟨b, f1, hb⟩
  refine awp_cutK (fun fr H => res = LB ∧ fr 1 = .ptr 3 b 0 0 ∧ H b = some (.rows 3 [[.isl 1 (vs.map strRow), .isl 2 (aa.map Ar.row), .isl 5 (fs.map Fu.row)]])) (fun K hK => ?_) ?_
  · refine awp_seq_k fun K hK => ?_; refine awp_region rfl ?_; simp only [RR, seval]
    refine hK _ _ ?_; clear hK K
    refine awp_block ?_
    refine awp_loopK (fun mm fr H => ∃ k : Nat, mm = fs.length - k ∧ k ≤ fs.length ∧ fr 3 = .int .i64 k ∧ fr 1 = .ptr 3 b 0 0 ∧ H b = some (.rows 3 [[.isl 1 (vs.map strRow), .isl 2 (aa.map Ar.row), .isl 5 (fs.map Fu.row)]]) ∧ res = (NF k (fs.drop k) && LB)) (fs.length) ⟨0, rfl, Nat.zero_le _, rfl, f1, hb, by rw [List.drop_zero]; exact hN⟩ ?_
    rintro mm fr H ⟨k, rfl, hkk, hik, f1, hb, hall⟩ K2 hK2
    refine awp_seq ?_
    refine awp_seq_k fun K hK => ?_; refine awp_region rfl ?_; simp only [RR, seval]
    simp only [hik, f1, hb,List.length_map, RR, seval]
    refine hK _ _ ?_; clear hK K
    refine awp_if _ rfl (fun hc => ?_) (fun hc => ?_)
    · have hltk : k < fs.length := by have := of_decide_eq_true hc; omega
      clear hc
      refine awp_skip ?_; simp only [thenQ, blockQ]
      refine awp_seq ?_
      refine awp_block ?_
      have hg0 := List.getElem?_eq_getElem hltk
      have hg := getF hg0
      have hfsk := hfs _ (List.getElem_mem hltk)
      have hokk := hokf _ (List.getElem_mem hltk)
      have hck := hcall k _ hg0
      rw [List.drop_eq_getElem_cons hltk, hstep] at hall
      generalize fs[k] = g at hg hfsk hokk hall hck
      have hus := Uses_con _ g.body rfl (by omega) hokk.body
      have hul := usesS_len _ g.body rfl
      refine awp_seq_k fun K hK => ?_; refine awp_region rfl ?_; simp only [RR, seval]
      simp only [f1, hb, hik, hg, RR, seval]
      refine awpC_pure' hus ?_; simp only [RR, seval]
      refine hK _ _ ?_; clear hK K
      generalize usesS g.body = us at hall hul hck
      refine awp_seq_k fun K hK => ?_; refine awp_region rfl ?_; simp only [RR, seval]
      refine hK _ _ ?_; clear hK K
      refine awp_block ?_
      refine awp_loopK (fun mm fr H => ∃ j : Nat, mm = us.length - j ∧ j ≤ us.length ∧ fr 5 = .int .i64 j ∧ fr 1 = .ptr 3 b 0 0 ∧ H b = some (.rows 3 [[.isl 1 (vs.map strRow), .isl 2 (aa.map Ar.row), .isl 5 (fs.map Fu.row)]]) ∧ fr 3 = .int .i64 k ∧ fr 4 = .isl 3 (us.map Us.row) ∧ us.all (OU k) = (us.drop j).all (OU k)) (us.length) ⟨0, rfl, Nat.zero_le _, rfl, f1, hb, hik, rfl, by rw [List.drop_zero]⟩ ?_
      rintro mm fr H ⟨j, rfl, hkj, hij, f1, hb, hik, f4, hua⟩ K3 hK3
      refine awp_seq ?_
      refine awp_seq_k fun K hK => ?_; refine awp_region rfl ?_; simp only [RR, seval]
      simp only [hij, f4,List.length_map, RR, seval]
      refine hK _ _ ?_; clear hK K
      refine awp_if _ rfl (fun hc => ?_) (fun hc => ?_)
      · have hltj : j < us.length := by have := of_decide_eq_true hc; omega
        clear hc
        refine awp_skip ?_; simp only [thenQ, blockQ]
        refine awp_seq ?_
        refine awp_block ?_
        have hgu := getU (List.getElem?_eq_getElem hltj)
        have hcu := hck _ (List.getElem_mem hltj)
        rw [List.drop_eq_getElem_cons hltj, List.all_cons] at hua
        generalize us[j] = u at hgu hua hcu
        have hou := hok2 k u
        by_cases hk4 : u.kind = 4
        · have hfn := hfind k hltk u.name
          obtain ⟨c1, c2⟩ := hcu hk4
          generalize FF k u.name = r at hfn hou c1 c2
          obtain ⟨n, hn2⟩ := Int.eq_ofNat_of_zero_le c1
          have hnl : n < fs.length := by omega
          have hgn := getF (List.getElem?_eq_getElem hnl)
          rw [hn2, Int.toNat_natCast, List.getElem?_eq_getElem hnl, hk4] at hou
          simp only [decide_true, Bool.not_true, Bool.false_or] at hou
          generalize fs[n] = gn at hgn hou
          have k4 : decide (u.kind = 4) = true := decide_eq_true hk4
          refine awp_seq ?_
          refine awp_seq_k fun K hK => ?_; refine awp_region rfl ?_; simp only [RR, seval]
          simp only [hij, f4, hgu, k4, RR, seval]
          refine hK _ _ ?_; clear hK K
          refine awp_if false rfl (fun hc => by cases hc) (fun _ => ?_)
          refine awp_skip ?_; simp only [thenQ, blockQ]
          refine awp_seq_k fun K hK => ?_
          refine awp_region_draw (fun x => x ≠ b) [(0, true), (1, true), (2, true), (3, true), (4, true), (5, true), (6, true), (7, true), (8, true), (9, true), (10, true), (11, true), (12, true)] draws (by kernel_rfl) rfl ?_
          simp only [emit, markOf, f1, hb, hik, hij, f4, hgu, awpL_entry, touch_ptr, touch_ipt, RR, seval]
          refine awpC_pure' hfn ?_
          simp only [f1, hb, hik, hij, f4, hgu, hn2, awpL_entry, touch_ptr, touch_ipt, RR, seval]
          refine hK _ _ ?_; clear hK K
          refine awp_seq_k fun K hK => ?_
          refine awp_region_draw (fun x => x ≠ b) [(0, true), (1, true), (2, true), (3, true), (4, true), (5, true), (6, true), (7, true), (8, true), (9, true), (10, true), (11, true), (12, true)] draws (by kernel_rfl) rfl ?_
          simp only [emit, markOf, f1, hb, hik, hij, f4, hgu, hgn, awpL_entry, touch_ptr, touch_ipt, List.length_map, RR, seval]
          refine hK _ _ ?_; clear hK K
          refine awp_if (!decide ((gn.params.length : Int) = u.num)) rfl (fun hc => ?_) (fun hc => ?_)
          · repeat' (first | (refine awp_seq_k fun K hK => ?_; refine awp_region rfl ?_; simp only [f1, RR, seval]; refine hK _ _ ?_; clear hK K) | (refine awp_seq ?_) | (refine awp_block ?_) | (refine awp_if true rfl (fun _ => ?_) (fun hc => by cases hc)) | (refine awp_if false rfl (fun hc => by cases hc) (fun _ => ?_)) | (refine awp_skip ?_; simp only [thenQ, blockQ]) | (refine awp_exit ?_; simp only [thenQ, blockQ, reduceIte, Nat.reduceEqDiff]) | (refine awp_region rfl ?_; simp only [f1, thenQ, blockQ, RR, seval]) | (refine awpG_splitN (fun h => ?_) (fun h => ?_) <;> simp only [h, f1, thenQ, blockQ, RR, seval]) | (refine awpG_split (fun h => ?_) (fun h => ?_) <;> simp only [h, f1, thenQ, blockQ, RR, seval]) | (refine awp_if _ rfl (fun h => ?_) (fun h => ?_)) | (refine awp_ret ?_; simp only [thenQ, blockQ, bodyQ, aresult, ares, argF, f1, RR, seval]; refine Gives.pure ?_))
            rw [hall, hua, hou, show decide ((gn.params.length : Int) = u.num) = false by simpa using hc]; rfl
          · rw [hou, show decide ((gn.params.length : Int) = u.num) = true by simpa using hc, Bool.true_and] at hua
            refine awp_skip ?_; simp only [thenQ, blockQ]
            refine awp_region rfl ?_; simp only [RR, seval]
            simp only [hij, thenQ, blockQ, RR, seval]
            rw [IntWalk.i64_in _ (by omega)]
            refine hK3 (us.length - (j + 1)) _ _ (by omega) ⟨j + 1, rfl, by omega, rfl, f1, hb, hik, f4, hua⟩
        · have k4 : decide (u.kind = 4) = false := decide_eq_false hk4
          rw [k4] at hou
          simp only [Bool.not_false, Bool.true_or] at hou
          rw [hou, Bool.true_and] at hua
          refine awp_seq ?_
          refine awp_seq_k fun K hK => ?_; refine awp_region rfl ?_; simp only [RR, seval]
          simp only [hij, f4, hgu, k4, RR, seval]
          refine hK _ _ ?_; clear hK K
          refine awp_if true rfl (fun _ => ?_) (fun hc => by cases hc)
          refine awp_exit ?_; simp only [thenQ, blockQ, reduceIte, Nat.reduceEqDiff]
          refine awp_region rfl ?_; simp only [RR, seval]
          simp only [hij, thenQ, blockQ, RR, seval]
          rw [IntWalk.i64_in _ (by omega)]
          refine hK3 (us.length - (j + 1)) _ _ (by omega) ⟨j + 1, rfl, by omega, rfl, f1, hb, hik, f4, hua⟩
      · refine awp_exit ?_; simp only [thenQ, blockQ, reduceIte, Nat.reduceEqDiff]
        have hknj : j = us.length := by have := of_decide_eq_false hc; omega
        clear hc
        subst hknj
        rw [List.drop_length] at hua
        rw [hua, List.all_nil, Bool.true_and] at hall
        try simp only [thenQ, blockQ]
        refine awp_region rfl ?_; simp only [RR, seval]
        simp only [hik, thenQ, blockQ, RR, seval]
        rw [IntWalk.i64_in _ (by omega)]
        refine hK2 (fs.length - (k + 1)) _ _ (by omega) ⟨k + 1, rfl, by omega, rfl, f1, hb, hall⟩
    · refine awp_exit ?_; simp only [thenQ, blockQ, reduceIte, Nat.reduceEqDiff]
      have hknk : k = fs.length := by have := of_decide_eq_false hc; omega
      clear hc
      subst hknk
      rw [List.drop_length, hnil, Bool.true_and] at hall
      exact hK _ _ ⟨hall, f1, hb⟩
  · rintro fr H ⟨hres, f1, hb⟩
    have hlt : fs.length - 1 < fs.length := by omega
    have hg := getF (List.getElem?_eq_getElem hlt)
    rw [List.getElem?_eq_getElem hlt] at hL
    generalize fs[fs.length - 1] = g at hg hL
    have w1 : IntKind.wrap .i64 ((fs.length : Int) - 1) = ((fs.length - 1 : Nat) : Int) := by rw [IntWalk.i64_in _ (by omega)]; omega
    have d1 : decide ((g.params.length : Int) = 0) = decide (g.params.length = 0) := by rw [Bool.eq_iff_iff]; simp only [decide_eq_true_eq]; omega
    refine awp_seq_k fun K hK => ?_; refine awp_region rfl ?_; simp only [RR, seval]
    simp only [f1, hb, w1, hg, List.length_map, RR, seval]
    refine awpN_intro fun b1 hb1 => ?_
    simp only [RR, seval]
    refine hK _ _ ?_; clear hK K
    have hH1 : (upd (upd H b1 (some (.rows 5 [[.str [], .nsl, .nsl, .bool false, .nsl]]))) b1 (some (.rows 5 [[.str g.name, .isl 1 (g.params.map strRow), .isl 1 (g.locs.map strRow), .bool g.word, .isl 5 (g.body.map Sm.row)]]))) b1 = some (.rows 5 [[.str g.name, .isl 1 (g.params.map strRow), .isl 1 (g.locs.map strRow), .bool g.word, .isl 5 (g.body.map Sm.row)]]) := upd_same _ _ _
    generalize (upd (upd H b1 (some (.rows 5 [[.str [], .nsl, .nsl, .bool false, .nsl]]))) b1 (some (.rows 5 [[.str g.name, .isl 1 (g.params.map strRow), .isl 1 (g.locs.map strRow), .bool g.word, .isl 5 (g.body.map Sm.row)]]))) = H1 at hH1 ⊢
    simp only at hL
    subst hres
    rw [hL]
    cases e1 : decide (g.name = mainS) with
    | false =>
      have e1' : decide (g.name = [109, 97, 105, 110]) = false := e1
      repeat' (first | (refine awp_seq_k fun K hK => ?_; refine awp_region rfl ?_; simp only [hH1, e1', d1, List.length_map, RR, seval]; refine hK _ _ ?_; clear hK K) | (refine awp_seq ?_) | (refine awp_block ?_) | (refine awp_if true rfl (fun _ => ?_) (fun hc => by cases hc)) | (refine awp_if false rfl (fun hc => by cases hc) (fun _ => ?_)) | (refine awp_skip ?_; simp only [thenQ, blockQ]) | (refine awp_exit ?_; simp only [thenQ, blockQ, reduceIte, Nat.reduceEqDiff]) | (refine awp_region rfl ?_; simp only [hH1, e1', d1, List.length_map, thenQ, blockQ, RR, seval]) | (refine awpG_splitN (fun h => ?_) (fun h => ?_) <;> simp only [h, hH1, e1', d1, List.length_map, thenQ, blockQ, RR, seval]) | (refine awpG_split (fun h => ?_) (fun h => ?_) <;> simp only [h, hH1, e1', d1, List.length_map, thenQ, blockQ, RR, seval]) | (refine awp_if _ rfl (fun h => ?_) (fun h => ?_)) | (refine awp_ret ?_; simp only [thenQ, blockQ, bodyQ, aresult, ares, argF, hH1, e1', d1, List.length_map, RR, seval]; refine Gives.pure ?_))
      rfl
    | true =>
      have e1' : decide (g.name = [109, 97, 105, 110]) = true := e1
      cases e2 : decide (g.params.length = 0) with
      | false =>
        rw [e2] at d1
        repeat' (first | (refine awp_seq_k fun K hK => ?_; refine awp_region rfl ?_; simp only [hH1, e1', d1, List.length_map, RR, seval]; refine hK _ _ ?_; clear hK K) | (refine awp_seq ?_) | (refine awp_block ?_) | (refine awp_if true rfl (fun _ => ?_) (fun hc => by cases hc)) | (refine awp_if false rfl (fun hc => by cases hc) (fun _ => ?_)) | (refine awp_skip ?_; simp only [thenQ, blockQ]) | (refine awp_exit ?_; simp only [thenQ, blockQ, reduceIte, Nat.reduceEqDiff]) | (refine awp_region rfl ?_; simp only [hH1, e1', d1, List.length_map, thenQ, blockQ, RR, seval]) | (refine awpG_splitN (fun h => ?_) (fun h => ?_) <;> simp only [h, hH1, e1', d1, List.length_map, thenQ, blockQ, RR, seval]) | (refine awpG_split (fun h => ?_) (fun h => ?_) <;> simp only [h, hH1, e1', d1, List.length_map, thenQ, blockQ, RR, seval]) | (refine awp_if _ rfl (fun h => ?_) (fun h => ?_)) | (refine awp_ret ?_; simp only [thenQ, blockQ, bodyQ, aresult, ares, argF, hH1, e1', d1, List.length_map, RR, seval]; refine Gives.pure ?_))
        rfl
      | true =>
        rw [e2] at d1
        repeat' (first | (refine awp_seq_k fun K hK => ?_; refine awp_region rfl ?_; simp only [hH1, e1', d1, List.length_map, RR, seval]; refine hK _ _ ?_; clear hK K) | (refine awp_seq ?_) | (refine awp_block ?_) | (refine awp_if true rfl (fun _ => ?_) (fun hc => by cases hc)) | (refine awp_if false rfl (fun hc => by cases hc) (fun _ => ?_)) | (refine awp_skip ?_; simp only [thenQ, blockQ]) | (refine awp_exit ?_; simp only [thenQ, blockQ, reduceIte, Nat.reduceEqDiff]) | (refine awp_region rfl ?_; simp only [hH1, e1', d1, List.length_map, thenQ, blockQ, RR, seval]) | (refine awpG_splitN (fun h => ?_) (fun h => ?_) <;> simp only [h, hH1, e1', d1, List.length_map, thenQ, blockQ, RR, seval]) | (refine awpG_split (fun h => ?_) (fun h => ?_) <;> simp only [h, hH1, e1', d1, List.length_map, thenQ, blockQ, RR, seval]) | (refine awp_if _ rfl (fun h => ?_) (fun h => ?_)) | (refine awp_ret ?_; simp only [thenQ, blockQ, bodyQ, aresult, ares, argF, hH1, e1', d1, List.length_map, RR, seval]; refine Gives.pure ?_))
        rfl
theorem rCheck_con (p : Pg) (hp : p.few) (h1 : 1 ≤ p.funs.length) : PCon env 41 [p.av] (.int .i64 (checkI p)) := by
  have hnames := names16_con p hp
  have hnums := fun h => numbers16_con p hp h h1
  have hC : checkI p = if namesB p then (if numsB p then 0 else 1) else 4 := rfl
  simp only [Pg.av, Pg.row] at hnames hnums ⊢
  generalize checkI p = res at *
  refine con_of 9 [.tmp 2] Tryd.func41 rfl rfl rfl rfl ?_
  refine awp_cutK (fun fr H => ∃ b, fr 1 = .ptr 3 b 0 0 ∧ H b = some (.rows 3 [[.isl 1 (p.vars.map strRow), .isl 2 (p.arrs.map Ar.row), .isl 5 (p.funs.map Fu.row)]])) (fun K hK => ?_) ?_
  · refine awp_region rfl ?_; simp only [RR, seval]
    refine awpN_intro fun b hb => ?_; simp only [RR, seval]
    exact hK _ _ ⟨b, rfl, upd_same _ _ _⟩
  rintro fr H ⟨b, f1, hb⟩
  refine awp_seq ?_
  refine awp_seq_k fun K hK => ?_; refine awp_region rfl ?_; simp only [RR, seval]
  simp only [f1, hb, RR, seval]
  refine awpC_pure' hnames ?_; simp only [RR, seval]
  refine hK _ _ ?_; clear hK K
  cases hn : namesB p with
  | false =>
    rw [hn] at hC
    repeat' (first | (refine awp_seq_k fun K hK => ?_; refine awp_region rfl ?_; simp only [hn, RR, seval]; refine hK _ _ ?_; clear hK K) | (refine awp_seq ?_) | (refine awp_block ?_) | (refine awp_if true rfl (fun _ => ?_) (fun hc => by cases hc)) | (refine awp_if false rfl (fun hc => by cases hc) (fun _ => ?_)) | (refine awp_skip ?_; simp only [thenQ, blockQ]) | (refine awp_exit ?_; simp only [thenQ, blockQ, reduceIte, Nat.reduceEqDiff]) | (refine awp_region rfl ?_; simp only [hn, thenQ, blockQ, RR, seval]) | (refine awpG_splitN (fun h => ?_) (fun h => ?_) <;> simp only [h, hn, thenQ, blockQ, RR, seval]) | (refine awpG_split (fun h => ?_) (fun h => ?_) <;> simp only [h, hn, thenQ, blockQ, RR, seval]) | (refine awp_if _ rfl (fun h => ?_) (fun h => ?_)) | (refine awp_ret ?_; simp only [thenQ, blockQ, bodyQ, aresult, ares, argF, hn, RR, seval]; refine Gives.pure ?_))
    rw [hC]; rfl
  | true =>
    rw [hn] at hC
    refine awp_if false (by simp [upd, ev, hn]) (fun hc => by cases hc) (fun _ => ?_)
    refine awp_skip ?_; simp only [thenQ, blockQ]
    refine awp_seq ?_
    refine awp_seq_k fun K hK => ?_; refine awp_region rfl ?_; simp only [RR, seval]
    simp only [f1, hb, RR, seval]
    refine awpC_pure' (hnums hn) ?_; simp only [RR, seval]
    refine hK _ _ ?_; clear hK K
    cases hm : numsB p with
    | false =>
      rw [hm] at hC
      repeat' (first | (refine awp_seq_k fun K hK => ?_; refine awp_region rfl ?_; simp only [hm, RR, seval]; refine hK _ _ ?_; clear hK K) | (refine awp_seq ?_) | (refine awp_block ?_) | (refine awp_if true rfl (fun _ => ?_) (fun hc => by cases hc)) | (refine awp_if false rfl (fun hc => by cases hc) (fun _ => ?_)) | (refine awp_skip ?_; simp only [thenQ, blockQ]) | (refine awp_exit ?_; simp only [thenQ, blockQ, reduceIte, Nat.reduceEqDiff]) | (refine awp_region rfl ?_; simp only [hm, thenQ, blockQ, RR, seval]) | (refine awpG_splitN (fun h => ?_) (fun h => ?_) <;> simp only [h, hm, thenQ, blockQ, RR, seval]) | (refine awpG_split (fun h => ?_) (fun h => ?_) <;> simp only [h, hm, thenQ, blockQ, RR, seval]) | (refine awp_if _ rfl (fun h => ?_) (fun h => ?_)) | (refine awp_ret ?_; simp only [thenQ, blockQ, bodyQ, aresult, ares, argF, hm, RR, seval]; refine Gives.pure ?_))
      rw [hC]; rfl
    | true =>
      rw [hm] at hC
      repeat' (first | (refine awp_seq_k fun K hK => ?_; refine awp_region rfl ?_; simp only [hm, RR, seval]; refine hK _ _ ?_; clear hK K) | (refine awp_seq ?_) | (refine awp_block ?_) | (refine awp_if true rfl (fun _ => ?_) (fun hc => by cases hc)) | (refine awp_if false rfl (fun hc => by cases hc) (fun _ => ?_)) | (refine awp_skip ?_; simp only [thenQ, blockQ]) | (refine awp_exit ?_; simp only [thenQ, blockQ, reduceIte, Nat.reduceEqDiff]) | (refine awp_region rfl ?_; simp only [hm, thenQ, blockQ, RR, seval]) | (refine awpG_splitN (fun h => ?_) (fun h => ?_) <;> simp only [h, hm, thenQ, blockQ, RR, seval]) | (refine awpG_split (fun h => ?_) (fun h => ?_) <;> simp only [h, hm, thenQ, blockQ, RR, seval]) | (refine awp_if _ rfl (fun h => ?_) (fun h => ?_)) | (refine awp_ret ?_; simp only [thenQ, blockQ, bodyQ, aresult, ares, argF, hm, RR, seval]; refine Gives.pure ?_))
      rw [hC]; rfl
end Go.Proofs.YtefjogkgeelbdaaDoor
