/- Chapter 16, the judge's: names and uses. Chapter 16, the judge's: what a name is; are names right? Chapter 16, the judge's: are names right, are numbers? Chapter 16, the judge's: are numbers right? Check; comparing lists of lists. Chapter 16, the judge's: lists of lists compared; the calls of each function. Chapter 16, the judge's: the calls of each function. -/
import Derived.Test.YtnbokmbjiioooaaSy2
import Derived.Test.YtnbokmbjiioooaaAl4
set_option linter.unusedSimpArgs false
set_option linter.unusedVariables false
namespace Go.Al
def placeN : List Str → Str → Option Nat
  | [], _ => none
  | x :: l, s => if x = s then some 0 else (placeN l s).map (· + 1)
def optI : Option Nat → Int | some n => n | none => -1
theorem placeN_lt : ∀ (l : List Str) (s : Str) (k : Nat), placeN l s = some k → k < l.length ∧ l[k]? = some s
  | [], s, k, h => by cases h
  | x :: l, s, k, h => by
    simp only [placeN] at h
    split at h
    · rename_i e; cases h; exact ⟨by simp, by simp [e]⟩
    · rw [Option.map_eq_some_iff] at h
      obtain ⟨j, hj, rfl⟩ := h
      have := placeN_lt l s j hj
      exact ⟨by simp only [List.length_cons]; omega, by simpa using this.2⟩
/-- where the search goes on -/
theorem placeN_from : ∀ (l : List Str) (s : Str) (k : Nat), (l.take k).contains s = false → placeN l s = (placeN (l.drop k) s).map (· + k)
  | l, s, 0, _ => by simp
  | [], s, k + 1, _ => by simp [placeN]
  | x :: l, s, k + 1, h => by
    simp only [List.take_succ_cons, List.contains_cons, Bool.or_eq_false_iff] at h
    have hne : ¬ x = s := fun e => by rw [e] at h; simp at h
    simp only [placeN, if_neg hne, List.drop_succ_cons]
    rw [placeN_from l s k h.2]
    cases placeN (l.drop k) s <;> simp [Nat.add_assoc]
def namesL (f : Fu) : List Str := f.params ++ f.locs
def globL (p : Pg) : List Str := p.vars ++ p.arrs.map Ar.name ++ p.funs.map Fu.name
def findG (p : Pg) (s : Str) : Int × Int := match placeN (globL p) s with
  | none => (0, -1)
  | some k => if k < p.vars.length then (2, k) else if k - p.vars.length < p.arrs.length then (3, ((k - p.vars.length : Nat) : Int)) else (4, ((k - p.vars.length - p.arrs.length : Nat) : Int))
def findF (p : Pg) (f : Nat) (s : Str) : Int × Int := match (p.funs[f]?).bind fun g => placeN (namesL g) s with
  | some k => (1, k)
  | none => findG p s
structure Us where
  name : Str
  kind : Int
  num : Int
def Us.row (u : Us) : List AV := [.str u.name, .int .i64 u.kind, .int .i64 u.num]
def useX (e : Ex) : List Us := if e.kind = 2 then [⟨e.name, 1, 0⟩] else if e.kind = 3 then [⟨e.name, 3, 0⟩] else if e.kind = 4 then [⟨e.name, 4, e.kids.length⟩] else []
def usesE : List Ex → List Us
  | [] => []
  | .mk k o n s kids :: l => useX (.mk k o n s kids) ++ usesE kids ++ usesE l
theorem usesE_cons (e : Ex) (l : List Ex) : usesE (e :: l) = useX e ++ usesE e.kids ++ usesE l := by cases e; rw [usesE]; rfl
def useS (e : Sm) : List Us := if e.kind = 1 then [⟨e.name, 1, 0⟩] else if e.kind = 2 then [⟨e.name, 3, 0⟩] else if e.kind = 6 then [⟨e.name, 4, e.es.length⟩] else []
def usesS : List Sm → List Us
  | [] => []
  | .mk k s es t u :: l => useS (.mk k s es t u) ++ usesE es ++ usesS t ++ usesS u ++ usesS l
theorem usesS_cons (e : Sm) (l : List Sm) : usesS (e :: l) = useS e ++ usesE e.es ++ usesS e.thn ++ usesS e.els ++ usesS l := by cases e; rw [usesS]; rfl
theorem useX_len (e : Ex) : (useX e).length ≤ 1 := by
  unfold useX
  repeat' split
  all_goals simp
theorem useS_len (e : Sm) : (useS e).length ≤ 1 := by
  unfold useS
  repeat' split
  all_goals simp
theorem usesE_len (n : Nat) : ∀ l : List Ex, szE l = n → (usesE l).length ≤ n := by
  induction n using Nat.strongRecOn with
  | _ n ih =>
    intro l hn
    cases l with
    | nil => simp [usesE]
    | cons e l =>
      have hs := e.sz_eq
      simp only [szE] at hn
      rw [usesE_cons, List.length_append, List.length_append]
      have := useX_len e
      have h1 := ih (szE e.kids) (by omega) e.kids rfl
      have h2 := ih (szE l) (by omega) l rfl
      omega
theorem usesS_len (n : Nat) : ∀ l : List Sm, szS l = n → (usesS l).length ≤ n := by
  induction n using Nat.strongRecOn with
  | _ n ih =>
    intro l hn
    cases l with
    | nil => simp [usesS]
    | cons e l =>
      have hs := e.sz_eq
      simp only [szS] at hn
      rw [usesS_cons, List.length_append, List.length_append, List.length_append, List.length_append]
      have := useS_len e
      have h0 := usesE_len _ e.es rfl
      have h1 := ih (szS e.thn) (by omega) e.thn rfl
      have h2 := ih (szS e.els) (by omega) e.els rfl
      have h3 := ih (szS l) (by omega) l rfl
      omega
theorem usesE_take {l : List Ex} {k : Nat} (h : k < l.length) : usesE (l.take (k + 1)) = usesE (l.take k) ++ (useX l[k] ++ usesE l[k].kids) := by
  have key : ∀ a b : List Ex, usesE (a ++ b) = usesE a ++ usesE b := by
    intro a b
    induction a with
    | nil => simp [usesE]
    | cons e a ih => rw [List.cons_append, usesE_cons, usesE_cons, ih]; simp only [List.append_assoc]
  rw [List.take_succ_eq_append_getElem h, key, usesE_cons]
  simp [usesE]
theorem usesS_take {l : List Sm} {k : Nat} (h : k < l.length) : usesS (l.take (k + 1)) = usesS (l.take k) ++ (useS l[k] ++ usesE l[k].es ++ usesS l[k].thn ++ usesS l[k].els) := by
  have key : ∀ a b : List Sm, usesS (a ++ b) = usesS a ++ usesS b := by
    intro a b
    induction a with
    | nil => simp [usesS]
    | cons e a ih => rw [List.cons_append, usesS_cons, usesS_cons, ih]; simp only [List.append_assoc]
  rw [List.take_succ_eq_append_getElem h, key, usesS_cons]
  simp [usesS]
theorem szE_take (l : List Ex) (k : Nat) : szE (l.take k) ≤ szE l := by
  induction l generalizing k with
  | nil => simp
  | cons e l ih =>
    cases k with
    | zero => simp [szE]
    | succ k => simp only [List.take_succ_cons, szE]; have := ih k; omega
theorem szS_take (l : List Sm) (k : Nat) : szS (l.take k) ≤ szS l := by
  induction l generalizing k with
  | nil => simp
  | cons e l ih =>
    cases k with
    | zero => simp [szS]
    | succ k => simp only [List.take_succ_cons, szS]; have := ih k; omega
theorem oneN (l : List Str) : (l.map strRow).all (fun r => r.all one) = true := by
  rw [List.all_eq_true]; intro r hr; obtain ⟨t, _, rfl⟩ := List.mem_map.1 hr; rfl
theorem oneU (l : List Us) : (l.map Us.row).all (fun r => r.all one) = true := by
  rw [List.all_eq_true]; intro r hr; obtain ⟨t, _, rfl⟩ := List.mem_map.1 hr; rfl
end Go.Al
namespace Go.Proofs.Ytnbokmbjiioooaa
open Go.Al
theorem place_con (l : List Str) (s : Str) (hl : fitL l) : PCon env 38 [.isl 1 (l.map strRow), .str s] (.int .i64 (optI (placeN l s))) := by
  have hl : l.length ≤ 9223372036854775807 := hl
  refine con_of 19 [.tmp 4] Try.func38 rfl rfl rfl rfl ?_
  refine awp_seq_k fun K hK => ?_; refine awp_region rfl ?_; simp only [RR, seval]
  refine hK _ _ ?_; clear hK K
  refine awp_cutK (fun fr H => placeN l s = none) (fun K hK => ?_) ?_
  · refine awp_seq_k fun K hK => ?_; refine awp_region rfl ?_; simp only [RR, seval]
    refine hK _ _ ?_; clear hK K
    refine awp_block ?_
    refine awp_loopK (fun mm fr H => ∃ k : Nat, mm = l.length - k ∧ k ≤ l.length ∧ fr 5 = .int .i64 k ∧ fr 0 = .isl 1 (l.map strRow) ∧ fr 1 = .str s ∧ placeN l s = (placeN (l.drop k) s).map (· + k)) (l.length) ⟨0, rfl, Nat.zero_le _, rfl, rfl, rfl, by simp⟩ ?_
    rintro mm fr H ⟨k, rfl, hkk, hik, h0, f1, hp⟩ K2 hK2
    refine awp_seq ?_
    refine awp_seq_k fun K hK => ?_; refine awp_region rfl ?_; simp only [RR, seval]
    simp only [hik, h0,List.length_map, RR, seval]
    refine hK _ _ ?_; clear hK K
    refine awp_if _ rfl (fun hc => ?_) (fun hc => ?_)
    · have hltk : k < l.length := by have := of_decide_eq_true hc; omega
      clear hc
      refine awp_skip ?_; simp only [thenQ, blockQ]
      refine awp_seq ?_
      refine awp_block ?_
      have hg := getN (List.getElem?_eq_getElem hltk)
      rw [List.drop_eq_getElem_cons hltk] at hp
      simp only [placeN] at hp
      generalize l[k] = x at hg hp
      refine awp_seq_k fun K hK => ?_; refine awp_region rfl ?_; simp only [RR, seval]
      simp only [h0, f1, hik, hg, RR, seval]
      refine hK _ _ ?_; clear hK K
      refine awp_if _ rfl (fun hc => ?_) (fun hc => ?_)
      · have e : x = s := of_decide_eq_true hc
        rw [if_pos e] at hp
        repeat' (first | (refine awp_seq_k fun K hK => ?_; refine awp_region rfl ?_; simp only [hik, RR, seval]; refine hK _ _ ?_; clear hK K) | (refine awp_seq ?_) | (refine awp_block ?_) | (refine awp_if true rfl (fun _ => ?_) (fun hc => by cases hc)) | (refine awp_if false rfl (fun hc => by cases hc) (fun _ => ?_)) | (refine awp_skip ?_; simp only [thenQ, blockQ]) | (refine awp_exit ?_; simp only [thenQ, blockQ, reduceIte, Nat.reduceEqDiff]) | (refine awp_region rfl ?_; simp only [hik, thenQ, blockQ, RR, seval]) | (refine awpG_splitN (fun h => ?_) (fun h => ?_) <;> simp only [h, hik, thenQ, blockQ, RR, seval]) | (refine awpG_split (fun h => ?_) (fun h => ?_) <;> simp only [h, hik, thenQ, blockQ, RR, seval]) | (refine awp_if _ rfl (fun h => ?_) (fun h => ?_)) | (refine awp_ret ?_; simp only [thenQ, blockQ, bodyQ, aresult, ares, argF, hik, RR, seval]; refine Gives.pure ?_))
        rw [hp]; simp [optI]
      · have e : ¬ x = s := of_decide_eq_false hc
        rw [if_neg e] at hp
        refine awp_skip ?_; simp only [thenQ, blockQ]
        refine awp_region rfl ?_; simp only [RR, seval]
        simp only [hik, thenQ, blockQ, RR, seval]
        rw [IntWalk.i64_in _ (by omega)]
        refine hK2 (l.length - (k + 1)) _ _ (by omega) ⟨k + 1, rfl, by omega, rfl, h0, f1, by rw [hp, Option.map_map]; congr 1; funext y; simp only [Function.comp]; omega⟩
    · refine awp_exit ?_; simp only [thenQ, blockQ, reduceIte, Nat.reduceEqDiff]
      have hknk : k = l.length := by have := of_decide_eq_false hc; omega
      clear hc
      subst hknk
      rw [List.drop_length] at hp
      exact hK _ _ (by rw [hp]; rfl)
  · rintro fr H h0
    refine awp_seq_k fun K hK => ?_; refine awp_region rfl ?_; simp only [RR, seval]
    refine hK _ _ ?_; clear hK K
    refine awp_ret ?_; simp only [thenQ, blockQ, bodyQ, aresult, ares, argF, RR, seval]; refine Gives.pure ?_
    rw [h0]; rfl
theorem Names_con (f : Fu) (h : f.params.length ≤ 1000000) (h2 : f.locs.length ≤ 1000000) : PCon env 36 [.agg f.row] (.isl 1 ((namesL f).map strRow)) := by
  refine con_of 10 [.tmp 2] Try.func36 rfl rfl rfl rfl ?_
  simp only [Fu.row]
  refine awp_cutK (fun fr H => ∃ b, fr 1 = .ptr 5 b 0 0 ∧ H b = some (.rows 5 [[.str f.name, .isl 1 (f.params.map strRow), .isl 1 (f.locs.map strRow), .bool f.word, .isl 5 (f.body.map Sm.row)]])) (fun K hK => ?_) ?_
  · refine awp_region rfl ?_; simp only [RR, seval]
    refine awpN_intro fun b hb => ?_; simp only [RR, seval]
    exact hK _ _ ⟨b, rfl, upd_same _ _ _⟩
  rintro fr H ⟨b, f1, hb⟩
  refine awp_cutK (fun fr H => OwnL 1 (fr 2) ((namesL f).map strRow) H) (fun K hK => ?_) ?_
  · refine awp_region_draw (fun x => x ≠ b) [(1, false), (2, false), (4, false), (5, false), (0, true), (3, true), (6, true), (7, true)] draws (by kernel_rfl) rfl ?_
    simp only [emit, markOf, f1, hb, awpL_entry, touch_ptr, RR, seval]
    refine awpB_own fun b0 hb0 => ?_
    have hne : b ≠ b0 := fun e => by rw [e, hb0] at hb; cases hb
    have hb' : (upd H b0 (some (.rows 1 []))) b = some (.rows 5 [[.str f.name, .isl 1 (f.params.map strRow), .isl 1 (f.locs.map strRow), .bool f.word, .isl 5 (f.body.map Sm.row)]]) := by simp only [upd, if_neg hne, hb]
    have hown : OwnO 1 (.osl 1 b0 0) [] (upd H b0 (some (.rows 1 []))) := ⟨b0, rfl, upd_same _ _ _⟩
    generalize upd H b0 (some (.rows 1 [])) = H1 at hb' hown ⊢
    simp only [oneN, awpL_entry, touch_ptr, RR, seval]
    refine awpA_ownO hown (by simp only [List.length_nil, List.length_map]; omega) (fun x hx => hown.far hb' (by decide) x hx) fun v2 H2 hv2 hk2 => ?_
    have hb2 := hk2 b _ hb' (hown.nb' hb' (by decide))
    simp only [oneN, RR, seval]
    refine awpA_ownO hv2 (by simp only [List.nil_append, List.length_map]; omega) (fun x hx => hv2.far hb2 (by decide) x hx) fun v3 H3 hv3 _ => ?_
    simp only [RR, seval]
    refine hK _ _ ?_
    simp only [upd, reduceIte, namesL, List.map_append]
    exact hv3.own
  rintro fr H hown
  refine awp_ret ?_
  simp only [thenQ, blockQ, bodyQ, aresult, ares, argF, RR, seval]
  exact hown.gives1 rfl
set_option maxHeartbeats 2000000 in
theorem exprs_con (n : Nat) : ∀ l : List Ex, szE l = n → n ≤ 1000000 → okE l → PCon env 39 [.isl 5 (l.map Ex.row)] (.isl 3 ((usesE l).map Us.row)) := by
  induction n using Nat.strongRecOn with
  | _ n ih =>
    intro l hn hbd hok
    have hfit : l.length ≤ 9223372036854775807 := hok.fit
    refine con_of 64 [.tmp 2] Try.func39 rfl rfl rfl rfl ?_
    refine awp_seq_k fun K hK => ?_; refine awp_region rfl ?_; simp only [RR, seval]
    refine hK _ _ ?_; clear hK K
    refine awp_seq_k fun K hK => ?_; refine awp_region rfl ?_; simp only [RR, seval]
    refine hK _ _ ?_; clear hK K
    refine awp_cutK (fun fr H => OwnL 3 (fr 3) ((usesE l).map Us.row) H) (fun K hK => ?_) ?_
    · refine awp_seq_k fun K hK => ?_; refine awp_region rfl ?_; simp only [RR, seval]
      refine hK _ _ ?_; clear hK K
      refine awp_block ?_
      refine awp_loopK (fun mm fr H => ∃ k : Nat, mm = l.length - k ∧ k ≤ l.length ∧ fr 4 = .int .i64 k ∧ fr 0 = .isl 5 (l.map Ex.row) ∧ OwnL 3 (fr 3) ((usesE (l.take k)).map Us.row) H) (l.length) ⟨0, rfl, Nat.zero_le _, rfl, rfl, .inl ⟨rfl, by simp [usesE, usesS]⟩⟩ ?_
      rintro mm fr H ⟨k, rfl, hkk, hik, h0, hown⟩ K2 hK2
      refine awp_seq ?_
      refine awp_seq_k fun K hK => ?_; refine awp_region rfl ?_; simp only [RR, seval]
      simp only [hik, h0,List.length_map, RR, seval]
      refine hK _ _ ?_; clear hK K
      refine awp_if _ rfl (fun hc => ?_) (fun hc => ?_)
      · have hltk : k < l.length := by have := of_decide_eq_true hc; omega
        clear hc
        refine awp_skip ?_; simp only [thenQ, blockQ]
        refine awp_seq ?_
        refine awp_block ?_
        have hg := getE (List.getElem?_eq_getElem hltk)
        have hmem := List.getElem_mem hltk
        have hoke := hok.all _ hmem
        have hsz := szE_mem hmem
        have htk := usesE_take hltk
        have hlt1 := usesE_len _ (l.take k) rfl
        have hlt2 := szE_take l k
        have hul := useX_len l[k]
        generalize l[k] = e at hg htk hoke hsz hul
        have hse := e.sz_eq
        have hkl := usesE_len _ e.kids rfl
        have hfk : e.kids.length ≤ 9223372036854775807 := hoke.kids.fit
        refine awp_cutK (fun fr H => fr 0 = .isl 5 (l.map Ex.row) ∧ OwnL 3 (fr 3) ((usesE (l.take k) ++ useX e).map Us.row) H ∧ fr 4 = .int .i64 k) (fun K hK => ?_) ?_
        · refine awp_seq_k fun K hK => ?_; refine awp_region rfl ?_; simp only [RR, seval]
          simp only [h0, hik, hg, RR, seval]
          refine hK _ _ ?_; clear hK K
          refine awp_block ?_
          refine awp_seq_k fun K hK => ?_; refine awp_region rfl ?_; simp only [RR, seval]
          refine hK _ _ ?_; clear hK K
          have hb32 : (((usesE (l.take k)).map Us.row).length + 1) * 32 ≤ 140737488355328 := by rw [List.length_map]; omega
          by_cases k2 : e.kind = 2
          · refine awp_if true (congrArg AV.bool (decide_eq_true k2)) (fun _ => ?_) (fun hc => by cases hc)
            refine awp_region rfl ?_; simp only [RR, seval]
            simp only [h0, hik, hg, RR, seval]
            refine awpB_sealed ?_
            simp only [RR, seval]
            refine awpA_own hown hb32 (fun _ => trivial) fun v' H' hv' _ => ?_
            simp only [RR, seval]
            refine hK _ _ ⟨h0, ?_, hik⟩
            rw [show useX e = [⟨e.name, 1, 0⟩] by simp [useX, k2], List.map_append]; exact hv'
          refine awp_if false (congrArg AV.bool (decide_eq_false k2)) (fun hc => by cases hc) (fun _ => ?_)
          refine awp_seq_k fun K hK => ?_; refine awp_region rfl ?_; simp only [RR, seval]
          refine hK _ _ ?_; clear hK K
          by_cases k3 : e.kind = 3
          · refine awp_if true (congrArg AV.bool (decide_eq_true k3)) (fun _ => ?_) (fun hc => by cases hc)
            refine awp_region rfl ?_; simp only [RR, seval]
            simp only [h0, hik, hg, RR, seval]
            refine awpB_sealed ?_
            simp only [RR, seval]
            refine awpA_own hown hb32 (fun _ => trivial) fun v' H' hv' _ => ?_
            simp only [RR, seval]
            refine hK _ _ ⟨h0, ?_, hik⟩
            rw [show useX e = [⟨e.name, 3, 0⟩] by simp [useX, k3], List.map_append]; exact hv'
          refine awp_if false (congrArg AV.bool (decide_eq_false k3)) (fun hc => by cases hc) (fun _ => ?_)
          refine awp_seq_k fun K hK => ?_; refine awp_region rfl ?_; simp only [RR, seval]
          refine hK _ _ ?_; clear hK K
          by_cases k4 : e.kind = 4
          · refine awp_if true (congrArg AV.bool (decide_eq_true k4)) (fun _ => ?_) (fun hc => by cases hc)
            refine awp_region_draw (fun _ => True) [(0, false), (1, true), (2, true), (3, true), (4, true), (5, true), (6, true), (7, true), (8, true), (9, true), (10, true), (11, true), (12, true), (13, true), (14, true), (15, true)] draws (by kernel_rfl) rfl ?_
            simp only [emit, markOf, h0, hik, hg, awpL_entry, touch_ipt, RR, seval]
            refine awpB_sealed ?_
            simp only [List.length_map, awpL_entry, touch_ipt, RR, seval]
            refine awpA_own hown hb32 (fun _ => trivial) fun v' H' hv' _ => ?_
            simp only [RR, seval]
            refine hK _ _ ⟨h0, ?_, hik⟩
            rw [show useX e = [⟨e.name, 4, e.kids.length⟩] by simp [useX, k4], List.map_append]; exact hv'
          refine awp_if false (congrArg AV.bool (decide_eq_false k4)) (fun hc => by cases hc) (fun _ => ?_)
          refine awp_skip ?_; simp only [thenQ, blockQ]
          refine hK _ _ ⟨h0, ?_, hik⟩
          rw [show useX e = [] by simp [useX, k2, k3, k4], List.append_nil]; exact hown
        · rintro fr H ⟨h0, hown, hik⟩
          refine awp_region rfl ?_
          simp only [h0, hik, hg, RR, seval]
          refine awpC_pure' (ih _ (by omega) e.kids rfl (by omega) hoke.kids) ?_; simp only [RR, seval]
          simp only [oneU, RR, seval]
          refine awpA_own hown (by simp only [List.length_map, List.length_append]; omega) (fun _ => trivial) fun v' H' hv' _ => ?_
          simp only [thenQ, blockQ, RR, seval]
          refine awp_region rfl ?_; simp only [RR, seval]
          simp only [hik, thenQ, blockQ, RR, seval]
          rw [IntWalk.i64_in _ (by omega)]
          refine hK2 (l.length - (k + 1)) _ _ (by omega) ⟨k + 1, rfl, by omega, rfl, h0, by rw [htk, ← List.append_assoc, List.map_append]; exact hv'⟩
      · refine awp_exit ?_; simp only [thenQ, blockQ, reduceIte, Nat.reduceEqDiff]
        have hknk : k = l.length := by have := of_decide_eq_false hc; omega
        clear hc
        subst hknk
        rw [List.take_length] at hown
        exact hK _ _ hown
    · rintro fr H hown
      refine awp_seq_k fun K hK => ?_; refine awp_region rfl ?_; simp only [RR, seval]
      refine hK _ _ ?_; clear hK K
      refine awp_ret ?_
      simp only [thenQ, blockQ, bodyQ, aresult, ares, argF, RR, seval]
      exact hown.gives1 rfl
set_option maxHeartbeats 2000000 in
theorem Uses_con (n : Nat) : ∀ l : List Sm, szS l = n → n ≤ 1000000 → okS l → PCon env 20 [.isl 5 (l.map Sm.row)] (.isl 3 ((usesS l).map Us.row)) := by
  induction n using Nat.strongRecOn with
  | _ n ih =>
    intro l hn hbd hok
    have hfit : l.length ≤ 9223372036854775807 := hok.fit
    refine con_of 80 [.tmp 2] Try.func20 rfl rfl rfl rfl ?_
    refine awp_seq_k fun K hK => ?_; refine awp_region rfl ?_; simp only [RR, seval]
    refine hK _ _ ?_; clear hK K
    refine awp_seq_k fun K hK => ?_; refine awp_region rfl ?_; simp only [RR, seval]
    refine hK _ _ ?_; clear hK K
    refine awp_cutK (fun fr H => OwnL 3 (fr 3) ((usesS l).map Us.row) H) (fun K hK => ?_) ?_
    · refine awp_seq_k fun K hK => ?_; refine awp_region rfl ?_; simp only [RR, seval]
      refine hK _ _ ?_; clear hK K
      refine awp_block ?_
      refine awp_loopK (fun mm fr H => ∃ k : Nat, mm = l.length - k ∧ k ≤ l.length ∧ fr 4 = .int .i64 k ∧ fr 0 = .isl 5 (l.map Sm.row) ∧ OwnL 3 (fr 3) ((usesS (l.take k)).map Us.row) H) (l.length) ⟨0, rfl, Nat.zero_le _, rfl, rfl, .inl ⟨rfl, by simp [usesE, usesS]⟩⟩ ?_
      rintro mm fr H ⟨k, rfl, hkk, hik, h0, hown⟩ K2 hK2
      refine awp_seq ?_
      refine awp_seq_k fun K hK => ?_; refine awp_region rfl ?_; simp only [RR, seval]
      simp only [hik, h0,List.length_map, RR, seval]
      refine hK _ _ ?_; clear hK K
      refine awp_if _ rfl (fun hc => ?_) (fun hc => ?_)
      · have hltk : k < l.length := by have := of_decide_eq_true hc; omega
        clear hc
        refine awp_skip ?_; simp only [thenQ, blockQ]
        refine awp_seq ?_
        refine awp_block ?_
        have hg := getS (List.getElem?_eq_getElem hltk)
        have hmem := List.getElem_mem hltk
        have hoke := hok.all _ hmem
        have hsz := szS_mem hmem
        have htk := usesS_take hltk
        have hlt1 := usesS_len _ (l.take k) rfl
        have hlt2 := szS_take l k
        have hul := useS_len l[k]
        generalize l[k] = e at hg htk hoke hsz hul
        have hse := e.sz_eq
        have hkl := usesE_len _ e.es rfl
        have hkt := usesS_len _ e.thn rfl
        have hke := usesS_len _ e.els rfl
        refine awp_cutK (fun fr H => fr 0 = .isl 5 (l.map Sm.row) ∧ OwnL 3 (fr 3) ((usesS (l.take k) ++ useS e).map Us.row) H ∧ fr 4 = .int .i64 k) (fun K hK => ?_) ?_
        · refine awp_seq_k fun K hK => ?_; refine awp_region rfl ?_; simp only [RR, seval]
          simp only [h0, hik, hg, RR, seval]
          refine hK _ _ ?_; clear hK K
          refine awp_block ?_
          refine awp_seq_k fun K hK => ?_; refine awp_region rfl ?_; simp only [RR, seval]
          refine hK _ _ ?_; clear hK K
          have hb32 : (((usesS (l.take k)).map Us.row).length + 1) * 32 ≤ 140737488355328 := by rw [List.length_map]; omega
          by_cases k2 : e.kind = 1
          · refine awp_if true (congrArg AV.bool (decide_eq_true k2)) (fun _ => ?_) (fun hc => by cases hc)
            refine awp_region rfl ?_; simp only [RR, seval]
            simp only [h0, hik, hg, RR, seval]
            refine awpB_sealed ?_
            simp only [RR, seval]
            refine awpA_own hown hb32 (fun _ => trivial) fun v' H' hv' _ => ?_
            simp only [RR, seval]
            refine hK _ _ ⟨h0, ?_, hik⟩
            rw [show useS e = [⟨e.name, 1, 0⟩] by simp [useS, k2], List.map_append]; exact hv'
          refine awp_if false (congrArg AV.bool (decide_eq_false k2)) (fun hc => by cases hc) (fun _ => ?_)
          refine awp_seq_k fun K hK => ?_; refine awp_region rfl ?_; simp only [RR, seval]
          refine hK _ _ ?_; clear hK K
          by_cases k3 : e.kind = 2
          · refine awp_if true (congrArg AV.bool (decide_eq_true k3)) (fun _ => ?_) (fun hc => by cases hc)
            refine awp_region rfl ?_; simp only [RR, seval]
            simp only [h0, hik, hg, RR, seval]
            refine awpB_sealed ?_
            simp only [RR, seval]
            refine awpA_own hown hb32 (fun _ => trivial) fun v' H' hv' _ => ?_
            simp only [RR, seval]
            refine hK _ _ ⟨h0, ?_, hik⟩
            rw [show useS e = [⟨e.name, 3, 0⟩] by simp [useS, k3], List.map_append]; exact hv'
          refine awp_if false (congrArg AV.bool (decide_eq_false k3)) (fun hc => by cases hc) (fun _ => ?_)
          refine awp_seq_k fun K hK => ?_; refine awp_region rfl ?_; simp only [RR, seval]
          refine hK _ _ ?_; clear hK K
          by_cases k4 : e.kind = 6
          · refine awp_if true (congrArg AV.bool (decide_eq_true k4)) (fun _ => ?_) (fun hc => by cases hc)
            refine awp_region_draw (fun _ => True) [(0, false), (1, true), (2, true), (3, true), (4, true), (5, true), (6, true), (7, true), (8, true), (9, true), (10, true), (11, true), (12, true), (13, true), (14, true), (15, true)] draws (by kernel_rfl) rfl ?_
            simp only [emit, markOf, h0, hik, hg, awpL_entry, touch_ipt, RR, seval]
            refine awpB_sealed ?_
            simp only [List.length_map, awpL_entry, touch_ipt, RR, seval]
            refine awpA_own hown hb32 (fun _ => trivial) fun v' H' hv' _ => ?_
            simp only [RR, seval]
            refine hK _ _ ⟨h0, ?_, hik⟩
            rw [show useS e = [⟨e.name, 4, e.es.length⟩] by simp [useS, k4], List.map_append]; exact hv'
          refine awp_if false (congrArg AV.bool (decide_eq_false k4)) (fun hc => by cases hc) (fun _ => ?_)
          refine awp_skip ?_; simp only [thenQ, blockQ]
          refine hK _ _ ⟨h0, ?_, hik⟩
          rw [show useS e = [] by simp [useS, k2, k3, k4], List.append_nil]; exact hown
        · rintro fr H ⟨h0, hown, hik⟩
          refine awp_seq_k fun K hK => ?_; refine awp_region rfl ?_; simp only [RR, seval]
          simp only [h0, hik, hg, RR, seval]
          refine awpC_pure' (exprs_con _ e.es rfl (by omega) hoke.es) ?_; simp only [RR, seval]
          simp only [oneU, RR, seval]
          refine awpA_own hown (by simp only [List.length_map, List.length_append]; omega) (fun _ => trivial) fun v' H' hv' _ => ?_
          simp only [RR, seval]
          refine hK _ _ ?_; clear hK K
          rw [← List.map_append] at hv'
          refine awp_seq_k fun K hK => ?_; refine awp_region rfl ?_; simp only [RR, seval]
          simp only [h0, hik, hg, RR, seval]
          refine awpC_pure' (ih _ (by omega) e.thn rfl (by omega) hoke.thn) ?_; simp only [RR, seval]
          simp only [oneU, RR, seval]
          refine awpA_own hv' (by simp only [List.length_map, List.length_append]; omega) (fun _ => trivial) fun v2 H2 hv2 _ => ?_
          simp only [RR, seval]
          refine hK _ _ ?_; clear hK K
          rw [← List.map_append] at hv2
          refine awp_region rfl ?_
          simp only [h0, hik, hg, RR, seval]
          refine awpC_pure' (ih _ (by omega) e.els rfl (by omega) hoke.els) ?_; simp only [RR, seval]
          simp only [oneU, RR, seval]
          refine awpA_own hv2 (by simp only [List.length_map, List.length_append]; omega) (fun _ => trivial) fun v3 H3 hv3 _ => ?_
          simp only [thenQ, blockQ, RR, seval]
          refine awp_region rfl ?_; simp only [RR, seval]
          simp only [hik, thenQ, blockQ, RR, seval]
          rw [IntWalk.i64_in _ (by omega)]
          refine hK2 (l.length - (k + 1)) _ _ (by omega) ⟨k + 1, rfl, by omega, rfl, h0, by rw [htk]; simp only [← List.append_assoc]; rw [List.map_append]; exact hv3⟩
      · refine awp_exit ?_; simp only [thenQ, blockQ, reduceIte, Nat.reduceEqDiff]
        have hknk : k = l.length := by have := of_decide_eq_false hc; omega
        clear hc
        subst hknk
        rw [List.take_length] at hown
        exact hK _ _ hown
    · rintro fr H hown
      refine awp_seq_k fun K hK => ?_; refine awp_region rfl ?_; simp only [RR, seval]
      refine hK _ _ ?_; clear hK K
      refine awp_ret ?_
      simp only [thenQ, blockQ, bodyQ, aresult, ares, argF, RR, seval]
      exact hown.gives1 rfl
end Go.Proofs.Ytnbokmbjiioooaa

namespace Go.Al
structure Pg.few (p : Pg) : Prop where
  ok : p.ok
  v : p.vars.length ≤ 10000
  a : p.arrs.length ≤ 10000
  f : p.funs.length ≤ 10000
  fs : ∀ f ∈ p.funs, f.params.length ≤ 10000 ∧ f.locs.length ≤ 10000 ∧ szS f.body ≤ 10000
theorem nodup_place : ∀ l : List Str, l.Nodup ↔ ∀ (i : Nat) (h : i < l.length), placeN l l[i] = some i
  | [] => by simp
  | x :: l => by
    rw [List.nodup_cons, nodup_place l]
    constructor
    · rintro ⟨h1, h2⟩ i hi
      cases i with
      | zero => simp [placeN]
      | succ i =>
        have hi' : i < l.length := by simpa using hi
        have hne : ¬ x = l[i] := fun e => h1 (e ▸ List.getElem_mem hi')
        simp only [List.getElem_cons_succ, placeN, if_neg hne, h2 i hi', Option.map_some]
    · intro h
      refine ⟨fun hx => ?_, fun i hi => ?_⟩
      · obtain ⟨i, hi, e⟩ := List.getElem_of_mem hx
        have := h (i + 1) (by simpa using hi)
        simp [placeN, e] at this
      · have := h (i + 1) (by simpa using hi)
        simp only [List.getElem_cons_succ, placeN] at this
        split at this
        · simp at this
        · rw [Option.map_eq_some_iff] at this
          obtain ⟨j, hj, e⟩ := this
          rw [hj]; congr 1; omega
def okUse (p : Pg) (i : Nat) (u : Us) : Bool :=
  !((decide (u.kind = 1) && !decide ((findF p i u.name).1 = 1) && !decide ((findF p i u.name).1 = 2)) || (decide (u.kind = 3) && !decide ((findF p i u.name).1 = 3)) ||
    (decide (u.kind = 4) && (!decide ((findF p i u.name).1 = 4) || decide ((i : Int) ≤ (findF p i u.name).2))))
def namesFrom (p : Pg) : Nat → List Fu → Bool
  | _, [] => true
  | i, f :: l => decide (namesL f).Nodup && (usesS f.body).all (okUse p i) && namesFrom p (i + 1) l
def namesB (p : Pg) : Bool := decide (globL p).Nodup && namesFrom p 0 p.funs
theorem globL_len (p : Pg) : (globL p).length = p.vars.length + p.arrs.length + p.funs.length := by simp [globL]; omega
theorem findG_bd (p : Pg) (s : Str) (h : (globL p).length ≤ 1000000) : -1 ≤ (findG p s).2 ∧ (findG p s).2 ≤ 1000000 ∧ 0 ≤ (findG p s).1 ∧ (findG p s).1 ≤ 4 := by
  unfold findG
  split
  · simp
  · rename_i k hk
    have := (placeN_lt _ _ _ hk).1
    split
    · simp only; omega
    · split <;> simp only <;> omega
theorem findF_bd (p : Pg) (i : Nat) (s : Str) (h : (globL p).length ≤ 1000000) (h2 : ∀ f ∈ p.funs, (namesL f).length ≤ 1000000) : -1 ≤ (findF p i s).2 ∧ (findF p i s).2 ≤ 1000000 ∧ 0 ≤ (findF p i s).1 ∧ (findF p i s).1 ≤ 4 := by
  unfold findF
  split
  · rename_i k hk
    rw [Option.bind_eq_some_iff] at hk
    obtain ⟨f, hf, hk⟩ := hk
    have := (placeN_lt _ _ _ hk).1
    have := h2 f (List.mem_of_getElem? hf)
    simp only; omega
  · exact findG_bd p s h
theorem Pg.few.gl {p : Pg} (h : p.few) : (globL p).length ≤ 30000 := by
  rw [globL_len]; have := h.v; have := h.a; have := h.f; omega
theorem Pg.few.nl {p : Pg} (h : p.few) : ∀ f ∈ p.funs, (namesL f).length ≤ 20000 := fun f hf => by
  have := h.fs f hf; simp only [namesL, List.length_append]; omega
end Go.Al
namespace Go.Proofs.Ytnbokmbjiioooaa
open Go.Al
theorem Globals_own (p : Pg) (hp : p.few) : MCon env 16 [p.av] 1 ((globL p).map strRow) := by
  have gv := hp.v
  have ga := hp.a
  have gf := hp.f
  have hG : globL p = p.vars ++ p.arrs.map Ar.name ++ p.funs.map Fu.name := rfl
  generalize globL p = G at hG ⊢
  obtain ⟨vs, aa, fs⟩ := p
  simp only at gv ga gf hG
  refine con_of 43 [.tmp 2] Try.func16 rfl rfl rfl rfl ?_
  simp only [Pg.av, Pg.row]
  refine awp_cutK (fun fr H => ∃ b, fr 1 = .ptr 3 b 0 0 ∧ H b = some (.rows 3 [[.isl 1 (vs.map strRow), .isl 2 (aa.map Ar.row), .isl 5 (fs.map Fu.row)]])) (fun K hK => ?_) ?_
  · refine awp_region rfl ?_; simp only [RR, seval]
    refine awpN_intro fun b hb => ?_; simp only [RR, seval]
    exact hK _ _ ⟨b, rfl, upd_same _ _ _⟩
  rintro fr H ⟨b, f1, hb⟩
  refine awp_cutK (fun fr H => OwnO 1 (fr 3) (vs.map strRow) H ∧ fr 1 = .ptr 3 b 0 0 ∧ H b = some (.rows 3 [[.isl 1 (vs.map strRow), .isl 2 (aa.map Ar.row), .isl 5 (fs.map Fu.row)]])) (fun K hK => ?_) ?_
  · refine awp_region rfl ?_
    simp only [f1, hb, RR, seval]
    refine awpB_own fun b0 hb0 => ?_
    have hne : b ≠ b0 := fun e => by rw [e, hb0] at hb; cases hb
    have hb' : (upd H b0 (some (.rows 1 []))) b = some (.rows 3 [[.isl 1 (vs.map strRow), .isl 2 (aa.map Ar.row), .isl 5 (fs.map Fu.row)]]) := by simp only [upd, if_neg hne, hb]
    have hown : OwnO 1 (.osl 1 b0 0) [] (upd H b0 (some (.rows 1 []))) := ⟨b0, rfl, upd_same _ _ _⟩
    generalize upd H b0 (some (.rows 1 [])) = H1 at hb' hown ⊢
    simp only [f1, hb', oneN, RR, seval]
    refine awpA_ownO hown (by simp only [List.length_nil, List.length_map]; omega) (fun _ _ => trivial) fun v2 H2 hv2 hk2 => ?_
    simp only [RR, seval]
    exact hK _ _ ⟨hv2, f1, hk2 b _ hb' (hown.nb' hb' (by decide))⟩
  rintro fr H ⟨hown, f1, hb⟩
  refine awp_cutK (fun fr H => OwnO 1 (fr 3) ((vs ++ aa.map Ar.name).map strRow) H ∧ fr 1 = .ptr 3 b 0 0 ∧ H b = some (.rows 3 [[.isl 1 (vs.map strRow), .isl 2 (aa.map Ar.row), .isl 5 (fs.map Fu.row)]])) (fun K hK => ?_) ?_
  · refine awp_seq_k fun K hK => ?_; refine awp_region rfl ?_; simp only [RR, seval]
    refine hK _ _ ?_; clear hK K
    refine awp_block ?_
    refine awp_loopK (fun mm fr H => ∃ k : Nat, mm = aa.length - k ∧ k ≤ aa.length ∧ fr 4 = .int .i64 k ∧ OwnO 1 (fr 3) ((vs ++ (aa.take k).map Ar.name).map strRow) H ∧ fr 1 = .ptr 3 b 0 0 ∧ H b = some (.rows 3 [[.isl 1 (vs.map strRow), .isl 2 (aa.map Ar.row), .isl 5 (fs.map Fu.row)]])) (aa.length) ⟨0, rfl, Nat.zero_le _, rfl, by simpa [upd] using hown, f1, hb⟩ ?_
    rintro mm fr H ⟨k, rfl, hkk, hik, hown, f1, hb⟩ K2 hK2
    refine awp_seq ?_
    refine awp_seq_k fun K hK => ?_; refine awp_region rfl ?_; simp only [RR, seval]
    simp only [hik, f1, hb,List.length_map, RR, seval]
    refine hK _ _ ?_; clear hK K
    refine awp_if _ rfl (fun hc => ?_) (fun hc => ?_)
    · have hltk : k < aa.length := by have := of_decide_eq_true hc; omega
      clear hc
      refine awp_skip ?_; simp only [thenQ, blockQ]
      refine awp_seq ?_
      refine awp_block ?_
      have hg := getA (List.getElem?_eq_getElem hltk)
      have htk : aa.take (k + 1) = aa.take k ++ [aa[k]] := List.take_succ_eq_append_getElem hltk
      generalize aa[k] = a at hg htk
      have htk2 : (vs ++ (aa.take (k + 1)).map Ar.name).map strRow = (vs ++ (aa.take k).map Ar.name).map strRow ++ [[.str a.name]] := by rw [htk]; simp [strRow]
      refine awp_region rfl ?_
      simp only [f1, hb, hik, hg, RR, seval]
      refine awpB_sealed ?_
      simp only [RR, seval]
      refine awpA_ownO hown (by simp only [List.length_map, List.length_append, List.length_cons, List.length_nil, List.length_take]; omega) (fun _ _ => trivial) fun v2 H2 hv2 hk2 => ?_
      simp only [thenQ, blockQ, RR, seval]
      have hb2 := hk2 b _ hb (hown.nb' hb (by decide))
      refine awp_region rfl ?_; simp only [RR, seval]
      simp only [hik, thenQ, blockQ, RR, seval]
      rw [IntWalk.i64_in _ (by omega)]
      refine hK2 (aa.length - (k + 1)) _ _ (by omega) ⟨k + 1, rfl, by omega, rfl, by rw [htk2]; exact hv2, f1, hb2⟩
    · refine awp_exit ?_; simp only [thenQ, blockQ, reduceIte, Nat.reduceEqDiff]
      have hknk : k = aa.length := by have := of_decide_eq_false hc; omega
      clear hc
      subst hknk
      rw [List.take_length] at hown
      exact hK _ _ ⟨hown, f1, hb⟩
  rintro fr H ⟨hown, f1, hb⟩
  refine awp_cutK (fun fr H => OwnO 1 (fr 3) (G.map strRow) H) (fun K hK => ?_) ?_
  · refine awp_seq_k fun K hK => ?_; refine awp_region rfl ?_; simp only [RR, seval]
    refine hK _ _ ?_; clear hK K
    refine awp_block ?_
    refine awp_loopK (fun mm fr H => ∃ k : Nat, mm = fs.length - k ∧ k ≤ fs.length ∧ fr 5 = .int .i64 k ∧ OwnO 1 (fr 3) ((vs ++ aa.map Ar.name ++ (fs.take k).map Fu.name).map strRow) H ∧ fr 1 = .ptr 3 b 0 0 ∧ H b = some (.rows 3 [[.isl 1 (vs.map strRow), .isl 2 (aa.map Ar.row), .isl 5 (fs.map Fu.row)]])) (fs.length) ⟨0, rfl, Nat.zero_le _, rfl, by simpa [upd] using hown, f1, hb⟩ ?_
    rintro mm fr H ⟨k, rfl, hkk, hik, hown, f1, hb⟩ K2 hK2
    refine awp_seq ?_
    refine awp_seq_k fun K hK => ?_; refine awp_region rfl ?_; simp only [RR, seval]
    simp only [hik, f1, hb,List.length_map, RR, seval]
    refine hK _ _ ?_; clear hK K
    refine awp_if _ rfl (fun hc => ?_) (fun hc => ?_)
    · have hltk : k < fs.length := by have := of_decide_eq_true hc; omega
      clear hc
      refine awp_skip ?_; simp only [thenQ, blockQ]
      refine awp_seq ?_
      refine awp_block ?_
      have hg := getF (List.getElem?_eq_getElem hltk)
      have htk : fs.take (k + 1) = fs.take k ++ [fs[k]] := List.take_succ_eq_append_getElem hltk
      generalize fs[k] = a at hg htk
      have htk2 : (vs ++ aa.map Ar.name ++ (fs.take (k + 1)).map Fu.name).map strRow = (vs ++ aa.map Ar.name ++ (fs.take k).map Fu.name).map strRow ++ [[.str a.name]] := by rw [htk]; simp [strRow]
      refine awp_region rfl ?_
      simp only [f1, hb, hik, hg, RR, seval]
      refine awpB_sealed ?_
      simp only [RR, seval]
      refine awpA_ownO hown (by simp only [List.length_map, List.length_append, List.length_cons, List.length_nil, List.length_take]; omega) (fun _ _ => trivial) fun v2 H2 hv2 hk2 => ?_
      simp only [thenQ, blockQ, RR, seval]
      have hb2 := hk2 b _ hb (hown.nb' hb (by decide))
      refine awp_region rfl ?_; simp only [RR, seval]
      simp only [hik, thenQ, blockQ, RR, seval]
      rw [IntWalk.i64_in _ (by omega)]
      refine hK2 (fs.length - (k + 1)) _ _ (by omega) ⟨k + 1, rfl, by omega, rfl, by rw [htk2]; exact hv2, f1, hb2⟩
    · refine awp_exit ?_; simp only [thenQ, blockQ, reduceIte, Nat.reduceEqDiff]
      have hknk : k = fs.length := by have := of_decide_eq_false hc; omega
      clear hc
      subst hknk
      rw [List.take_length, ← hG] at hown
      exact hK _ _ hown
  rintro fr H hown
  refine awp_seq_k fun K hK => ?_; refine awp_region rfl ?_; simp only [RR, seval]
  refine hK _ _ ?_; clear hK K
  refine awp_ret ?_
  simp only [thenQ, blockQ, bodyQ, aresult, ares, argF, RR, seval]
  exact MCon.gives hown.own
theorem Globals_con (p : Pg) (hp : p.few) : PCon env 16 [p.av] (.isl 1 ((globL p).map strRow)) := (Globals_own p hp).pure
theorem Find_con (p : Pg) (hp : p.few) (i : Nat) (hi : i < p.funs.length) (s : Str) : PCon env 35 [p.av, .int .i64 i, .str s] (.tup [.int .i64 (findF p i s).1, .int .i64 (findF p i s).2]) := by
  have gv := hp.v
  have ga := hp.a
  have gf := hp.f
  have hgl := globL_len p
  have hglob := Globals_con p hp
  have hplace := place_con (globL p) s (by simp only [fitL]; omega)
  have hgi := List.getElem?_eq_getElem hi
  have hfs := hp.fs _ (List.getElem_mem hi)
  have hF : findF p i s = match placeN (namesL p.funs[i]) s with | some k => (1, (k : Int)) | none => findG p s := by
    simp only [findF, hgi, Option.bind_some]
    all_goals (cases placeN (namesL p.funs[i]) s <;> rfl)
  have hGd : findG p s = match placeN (globL p) s with
    | none => (0, -1)
    | some k => if k < p.vars.length then (2, (k : Int)) else if k - p.vars.length < p.arrs.length then (3, ((k - p.vars.length : Nat) : Int)) else (4, ((k - p.vars.length - p.arrs.length : Nat) : Int)) := rfl
  have hnm := Names_con p.funs[i] (by omega) (by omega)
  have hpl := place_con (namesL p.funs[i]) s (by simp only [fitL, namesL, List.length_append]; omega)
  generalize p.funs[i] = g at hgi hF hnm hpl
  have hlen := fun k hk => (placeN_lt (globL p) s k hk).1
  generalize findF p i s = res at hF ⊢
  generalize globL p = G at *
  obtain ⟨vs, aa, fs⟩ := p
  simp only [Pg.av, Pg.row] at hglob ⊢
  simp only at gv ga gf hgi hgl hGd hi
  have hrow := getF hgi
  refine con_of 58 [.tmp 6, .tmp 7] Try.func35 rfl rfl rfl rfl ?_
  refine awp_cutK (fun fr H => ∃ b, fr 1 = .int .i64 i ∧ fr 2 = .str s ∧ fr 3 = .ptr 3 b 0 0 ∧ H b = some (.rows 3 [[.isl 1 (vs.map strRow), .isl 2 (aa.map Ar.row), .isl 5 (fs.map Fu.row)]])) (fun K hK => ?_) ?_
  · refine awp_region rfl ?_; simp only [RR, seval]
    refine awpN_intro fun b hb => ?_; simp only [RR, seval]
    exact hK _ _ ⟨b, rfl, rfl, rfl, upd_same _ _ _⟩
  rintro fr H ⟨b, f1, f2, f3, hb⟩
  have e1 : decide ((i : Int) < fs.length) = true := decide_eq_true (by omega)
  refine awp_cutK (fun fr H => res = findG ⟨vs, aa, fs⟩ s ∧ fr 2 = .str s ∧ fr 3 = .ptr 3 b 0 0 ∧ H b = some (.rows 3 [[.isl 1 (vs.map strRow), .isl 2 (aa.map Ar.row), .isl 5 (fs.map Fu.row)]])) (fun K hK => ?_) ?_
  · refine awp_seq_k fun K hK => ?_; refine awp_region rfl ?_; simp only [RR, seval]
    simp only [f1, f3, hb, List.length_map, e1, RR, seval]
    refine hK _ _ ?_; clear hK K
    refine awp_if true rfl (fun _ => ?_) (fun hc => by cases hc)
    refine awp_seq_k fun K hK => ?_; refine awp_region rfl ?_; simp only [RR, seval]
    simp only [f1, f2, f3, hb, hrow, RR, seval]
    refine awpC_pure' hnm ?_; simp only [RR, seval]
    simp only [f1, f2, f3, hb, hrow, RR, seval]
    refine awpC_pure' hpl ?_; simp only [RR, seval]
    refine hK _ _ ?_; clear hK K
    cases hpn : placeN (namesL g) s with
    | some k =>
      rw [hpn] at hF
      refine awp_seq_k fun K hK => ?_; refine awp_region rfl ?_; simp only [RR, seval]
      simp only [hpn, optI, RR, seval]
      refine hK _ _ ?_; clear hK K
      refine awp_if true rfl (fun _ => ?_) (fun hc => by cases hc)
      repeat' (first | (refine awp_seq_k fun K hK => ?_; refine awp_region rfl ?_; simp only [hpn, optI, RR, seval]; refine hK _ _ ?_; clear hK K) | (refine awp_seq ?_) | (refine awp_block ?_) | (refine awp_if true rfl (fun _ => ?_) (fun hc => by cases hc)) | (refine awp_if false rfl (fun hc => by cases hc) (fun _ => ?_)) | (refine awp_skip ?_; simp only [thenQ, blockQ]) | (refine awp_exit ?_; simp only [thenQ, blockQ, reduceIte, Nat.reduceEqDiff]) | (refine awp_region rfl ?_; simp only [hpn, optI, thenQ, blockQ, RR, seval]) | (refine awpG_splitN (fun h => ?_) (fun h => ?_) <;> simp only [h, hpn, optI, thenQ, blockQ, RR, seval]) | (refine awpG_split (fun h => ?_) (fun h => ?_) <;> simp only [h, hpn, optI, thenQ, blockQ, RR, seval]) | (refine awp_if _ rfl (fun h => ?_) (fun h => ?_)) | (refine awp_ret ?_; simp only [thenQ, blockQ, bodyQ, aresult, ares, argF, hpn, optI, RR, seval]; refine Gives.pure ?_))
      rw [hF]
    | none =>
      rw [hpn] at hF
      refine awp_seq_k fun K hK => ?_; refine awp_region rfl ?_; simp only [RR, seval]
      simp only [hpn, optI, RR, seval]
      refine hK _ _ ?_; clear hK K
      refine awp_if false rfl (fun hc => by cases hc) (fun _ => ?_)
      refine awp_skip ?_; simp only [thenQ, blockQ]
      exact hK _ _ ⟨hF, f2, f3, hb⟩
  rintro fr H ⟨hres, f2, f3, hb⟩
  rw [hGd] at hres
  refine awp_seq_k fun K hK => ?_; refine awp_region rfl ?_; simp only [RR, seval]
  simp only [f2, f3, hb, RR, seval]
  refine awpC_pure' hglob ?_; simp only [RR, seval]
  simp only [f2, f3, hb, RR, seval]
  refine awpC_pure' hplace ?_; simp only [RR, seval]
  refine hK _ _ ?_; clear hK K
  cases hpn : placeN G s with
  | none =>
    rw [hpn] at hres
    repeat' (first | (refine awp_seq_k fun K hK => ?_; refine awp_region rfl ?_; simp only [hpn, optI, RR, seval]; refine hK _ _ ?_; clear hK K) | (refine awp_seq ?_) | (refine awp_block ?_) | (refine awp_if true rfl (fun _ => ?_) (fun hc => by cases hc)) | (refine awp_if false rfl (fun hc => by cases hc) (fun _ => ?_)) | (refine awp_skip ?_; simp only [thenQ, blockQ]) | (refine awp_exit ?_; simp only [thenQ, blockQ, reduceIte, Nat.reduceEqDiff]) | (refine awp_region rfl ?_; simp only [hpn, optI, thenQ, blockQ, RR, seval]) | (refine awpG_splitN (fun h => ?_) (fun h => ?_) <;> simp only [h, hpn, optI, thenQ, blockQ, RR, seval]) | (refine awpG_split (fun h => ?_) (fun h => ?_) <;> simp only [h, hpn, optI, thenQ, blockQ, RR, seval]) | (refine awp_if _ rfl (fun h => ?_) (fun h => ?_)) | (refine awp_ret ?_; simp only [thenQ, blockQ, bodyQ, aresult, ares, argF, hpn, optI, RR, seval]; refine Gives.pure ?_))
    rw [hres]
  | some k =>
    rw [hpn] at hres
    simp only at hres
    have hk := hlen k hpn
    have w1 : IntKind.wrap .i64 ((k : Int) - vs.length) = (k : Int) - vs.length := IntWalk.i64_in _ (by omega)
    have w2 : IntKind.wrap .i64 ((k : Int) - vs.length - aa.length) = (k : Int) - vs.length - aa.length := IntWalk.i64_in _ (by omega)
    have d0 : decide ((k : Int) < 0) = false := decide_eq_false (by omega)
    by_cases c1 : k < vs.length
    · have d1 : decide ((k : Int) < vs.length) = true := decide_eq_true (by omega)
      repeat' (first | (refine awp_seq_k fun K hK => ?_; refine awp_region rfl ?_; simp only [hpn, optI, f3, hb, d0, d1, List.length_map, RR, seval]; refine hK _ _ ?_; clear hK K) | (refine awp_seq ?_) | (refine awp_block ?_) | (refine awp_if true rfl (fun _ => ?_) (fun hc => by cases hc)) | (refine awp_if false rfl (fun hc => by cases hc) (fun _ => ?_)) | (refine awp_skip ?_; simp only [thenQ, blockQ]) | (refine awp_exit ?_; simp only [thenQ, blockQ, reduceIte, Nat.reduceEqDiff]) | (refine awp_region rfl ?_; simp only [hpn, optI, f3, hb, d0, d1, List.length_map, thenQ, blockQ, RR, seval]) | (refine awpG_splitN (fun h => ?_) (fun h => ?_) <;> simp only [h, hpn, optI, f3, hb, d0, d1, List.length_map, thenQ, blockQ, RR, seval]) | (refine awpG_split (fun h => ?_) (fun h => ?_) <;> simp only [h, hpn, optI, f3, hb, d0, d1, List.length_map, thenQ, blockQ, RR, seval]) | (refine awp_if _ rfl (fun h => ?_) (fun h => ?_)) | (refine awp_ret ?_; simp only [thenQ, blockQ, bodyQ, aresult, ares, argF, hpn, optI, f3, hb, d0, d1, List.length_map, RR, seval]; refine Gives.pure ?_))
      rw [hres, if_pos c1]
    · have d1 : decide ((k : Int) < vs.length) = false := decide_eq_false (by omega)
      by_cases c2 : k - vs.length < aa.length
      · have d2 : decide ((k : Int) - vs.length < aa.length) = true := decide_eq_true (by omega)
        repeat' (first | (refine awp_seq_k fun K hK => ?_; refine awp_region rfl ?_; simp only [hpn, optI, f3, hb, d0, d1, d2, w1, List.length_map, RR, seval]; refine hK _ _ ?_; clear hK K) | (refine awp_seq ?_) | (refine awp_block ?_) | (refine awp_if true rfl (fun _ => ?_) (fun hc => by cases hc)) | (refine awp_if false rfl (fun hc => by cases hc) (fun _ => ?_)) | (refine awp_skip ?_; simp only [thenQ, blockQ]) | (refine awp_exit ?_; simp only [thenQ, blockQ, reduceIte, Nat.reduceEqDiff]) | (refine awp_region rfl ?_; simp only [hpn, optI, f3, hb, d0, d1, d2, w1, List.length_map, thenQ, blockQ, RR, seval]) | (refine awpG_splitN (fun h => ?_) (fun h => ?_) <;> simp only [h, hpn, optI, f3, hb, d0, d1, d2, w1, List.length_map, thenQ, blockQ, RR, seval]) | (refine awpG_split (fun h => ?_) (fun h => ?_) <;> simp only [h, hpn, optI, f3, hb, d0, d1, d2, w1, List.length_map, thenQ, blockQ, RR, seval]) | (refine awp_if _ rfl (fun h => ?_) (fun h => ?_)) | (refine awp_ret ?_; simp only [thenQ, blockQ, bodyQ, aresult, ares, argF, hpn, optI, f3, hb, d0, d1, d2, w1, List.length_map, RR, seval]; refine Gives.pure ?_))
        rw [hres, if_neg c1, if_pos c2]
        simp only
        rw [show ((k - vs.length : Nat) : Int) = (k : Int) - vs.length by omega]
      · have d2 : decide ((k : Int) - vs.length < aa.length) = false := decide_eq_false (by omega)
        refine awp_seq ?_
        refine awp_seq_k fun K hK => ?_; refine awp_region rfl ?_; simp only [RR, seval]
        simp only [hpn, optI, d0, RR, seval]
        refine hK _ _ ?_; clear hK K
        refine awp_if false rfl (fun hc => by cases hc) (fun _ => ?_)
        refine awp_skip ?_; simp only [thenQ, blockQ]
        refine awp_seq ?_
        refine awp_seq_k fun K hK => ?_; refine awp_region rfl ?_; simp only [RR, seval]
        simp only [hpn, optI, f3, hb, List.length_map, d1, RR, seval]
        refine hK _ _ ?_; clear hK K
        refine awp_if false rfl (fun hc => by cases hc) (fun _ => ?_)
        refine awp_skip ?_; simp only [thenQ, blockQ]
        refine awp_seq_k fun K hK => ?_; refine awp_region rfl ?_; simp only [RR, seval]
        simp only [hpn, optI, f3, hb, List.length_map, w1, RR, seval]
        refine hK _ _ ?_; clear hK K
        refine awp_seq ?_
        refine awp_seq_k fun K hK => ?_; refine awp_region rfl ?_; simp only [RR, seval]
        simp only [f3, hb, List.length_map, d2, RR, seval]
        refine hK _ _ ?_; clear hK K
        refine awp_if false rfl (fun hc => by cases hc) (fun _ => ?_)
        refine awp_skip ?_; simp only [thenQ, blockQ]
        refine awp_seq_k fun K hK => ?_
        refine awp_region_draw (fun x => x ≠ b) [(0, true), (1, true), (2, true), (3, true), (4, true), (5, true), (6, true)] draws (by kernel_rfl) rfl ?_
        simp only [emit, markOf, f3, hb, awpL_entry, touch_ptr, List.length_map, w2, RR, seval]
        refine hK _ _ ?_; clear hK K
        refine awp_ret ?_; simp only [thenQ, blockQ, bodyQ, aresult, ares, argF, RR, seval]; refine Gives.pure ?_
        rw [hres, if_neg c1, if_neg c2]
        simp only
        rw [show ((k - vs.length - aa.length : Nat) : Int) = (k : Int) - vs.length - aa.length by omega]
theorem unlike_con (l : List Str) (hl : fitL l) : PCon env 50 [.isl 1 (l.map strRow)] (.bool (decide l.Nodup)) := by
  have hfit : l.length ≤ 9223372036854775807 := hl
  refine con_of 18 [.tmp 2] Try.func50 rfl rfl rfl rfl ?_
  refine awp_seq_k fun K hK => ?_; refine awp_region rfl ?_; simp only [RR, seval]
  refine hK _ _ ?_; clear hK K
  refine awp_cutK (fun fr H => l.Nodup) (fun K hK => ?_) ?_
  · refine awp_seq_k fun K hK => ?_; refine awp_region rfl ?_; simp only [RR, seval]
    refine hK _ _ ?_; clear hK K
    refine awp_block ?_
    refine awp_loopK (fun mm fr H => ∃ k : Nat, mm = l.length - k ∧ k ≤ l.length ∧ fr 3 = .int .i64 k ∧ fr 0 = .isl 1 (l.map strRow) ∧ (∀ i (h : i < l.length), i < k → placeN l l[i] = some i)) (l.length) ⟨0, rfl, Nat.zero_le _, rfl, rfl, fun i _ h => by omega⟩ ?_
    rintro mm fr H ⟨k, rfl, hkk, hik, h0, hall⟩ K2 hK2
    refine awp_seq ?_
    refine awp_seq_k fun K hK => ?_; refine awp_region rfl ?_; simp only [RR, seval]
    simp only [hik, h0,List.length_map, RR, seval]
    refine hK _ _ ?_; clear hK K
    refine awp_if _ rfl (fun hc => ?_) (fun hc => ?_)
    · have hltk : k < l.length := by have := of_decide_eq_true hc; omega
      clear hc
      refine awp_skip ?_; simp only [thenQ, blockQ]
      refine awp_seq ?_
      refine awp_block ?_
      have hg := getN (List.getElem?_eq_getElem hltk)
      have hcon := place_con l l[k] hl
      refine awp_seq_k fun K hK => ?_; refine awp_region rfl ?_; simp only [RR, seval]
      simp only [h0, hik, hg, RR, seval]
      refine awpC_pure' hcon ?_; simp only [RR, seval]
      simp only [hik, RR, seval]
      refine hK _ _ ?_; clear hK K
      by_cases hpk : placeN l l[k] = some k
      · refine awp_if false (by rw [hpk]; simp [upd, ev, optI]) (fun hc => by cases hc) (fun _ => ?_)
        refine awp_skip ?_; simp only [thenQ, blockQ]
        refine awp_region rfl ?_; simp only [RR, seval]
        simp only [hik, thenQ, blockQ, RR, seval]
        rw [IntWalk.i64_in _ (by omega)]
        refine hK2 (l.length - (k + 1)) _ _ (by omega) ⟨k + 1, rfl, by omega, rfl, h0, fun i h hi => if e : i = k then by subst e; exact hpk else hall i h (by omega)⟩
      · have hne : ¬ optI (placeN l l[k]) = (k : Int) := fun e => by
          cases hh : placeN l l[k] with
          | none => rw [hh] at e; simp only [optI] at e; omega
          | some j => rw [hh] at e hpk; simp only [optI] at e; exact hpk (by congr 1; omega)
        refine awp_if true (by simp [upd, ev, hne]) (fun _ => ?_) (fun hc => by cases hc)
        repeat' (first | (refine awp_seq_k fun K hK => ?_; refine awp_region rfl ?_; simp only [h0, RR, seval]; refine hK _ _ ?_; clear hK K) | (refine awp_seq ?_) | (refine awp_block ?_) | (refine awp_if true rfl (fun _ => ?_) (fun hc => by cases hc)) | (refine awp_if false rfl (fun hc => by cases hc) (fun _ => ?_)) | (refine awp_skip ?_; simp only [thenQ, blockQ]) | (refine awp_exit ?_; simp only [thenQ, blockQ, reduceIte, Nat.reduceEqDiff]) | (refine awp_region rfl ?_; simp only [h0, thenQ, blockQ, RR, seval]) | (refine awpG_splitN (fun h => ?_) (fun h => ?_) <;> simp only [h, h0, thenQ, blockQ, RR, seval]) | (refine awpG_split (fun h => ?_) (fun h => ?_) <;> simp only [h, h0, thenQ, blockQ, RR, seval]) | (refine awp_if _ rfl (fun h => ?_) (fun h => ?_)) | (refine awp_ret ?_; simp only [thenQ, blockQ, bodyQ, aresult, ares, argF, h0, RR, seval]; refine Gives.pure ?_))
        congr 1
        symm
        exact decide_eq_false fun hnd => hpk ((nodup_place l).1 hnd k hltk)
    · refine awp_exit ?_; simp only [thenQ, blockQ, reduceIte, Nat.reduceEqDiff]
      have hknk : k = l.length := by have := of_decide_eq_false hc; omega
      clear hc
      subst hknk
      exact hK _ _ ((nodup_place l).2 fun i h => hall i h h)
  · rintro fr H h0
    refine awp_seq_k fun K hK => ?_; refine awp_region rfl ?_; simp only [RR, seval]
    refine hK _ _ ?_; clear hK K
    refine awp_ret ?_; simp only [thenQ, blockQ, bodyQ, aresult, ares, argF, RR, seval]; refine Gives.pure ?_
    congr 1
    exact (decide_eq_true h0).symm
end Go.Proofs.Ytnbokmbjiioooaa

namespace Go.Al
theorem getU {l : List Us} {i : Nat} {u : Us} (h : l[i]? = some u) : (l.map Us.row)[i]? = some [.str u.name, .int .i64 u.kind, .int .i64 u.num] := getRow _ h
/-- the number of arguments of a call is right -/
def numU (p : Pg) (i : Nat) (u : Us) : Bool := !decide (u.kind = 4) || (match p.funs[(findF p i u.name).2.toNat]? with | some g => decide ((g.params.length : Int) = u.num) | none => false)
def numsFrom (p : Pg) : Nat → List Fu → Bool
  | _, [] => true
  | i, f :: l => (usesS f.body).all (numU p i) && numsFrom p (i + 1) l
def mainS : Str := [109, 97, 105, 110]
def lastB (p : Pg) : Bool := match p.funs[p.funs.length - 1]? with | some g => decide (g.name = mainS) && decide (g.params.length = 0) && !g.word | none => false
def numsB (p : Pg) : Bool := numsFrom p 0 p.funs && lastB p
def checkI (p : Pg) : Int := if namesB p then (if numsB p then 0 else 1) else 4
theorem namesFrom_get (p : Pg) : ∀ (l : List Fu) (i : Nat), namesFrom p i l = true → ∀ (j : Nat) f, l[j]? = some f → (namesL f).Nodup ∧ (usesS f.body).all (okUse p (i + j)) = true
  | [], i, _, j, f, hf => by simp at hf
  | g :: l, i, h, j, f, hf => by
    simp only [namesFrom, Bool.and_eq_true, decide_eq_true_eq] at h
    cases j with
    | zero => simp at hf; subst hf; exact h.1
    | succ j =>
      have := namesFrom_get p l (i + 1) h.2 j f (by simpa using hf)
      rwa [show i + 1 + j = i + (j + 1) by omega] at this
theorem findF_call (p : Pg) (i : Nat) (s : Str) (h : (findF p i s).1 = 4) : 0 ≤ (findF p i s).2 ∧ (findF p i s).2 < p.funs.length := by
  unfold findF at *
  split at h
  · exact absurd h (by simp)
  · rename_i hn
    unfold findG at *
    split at h
    · exact absurd h (by decide)
    · rename_i k hk
      split at h
      · exact absurd h (by simp)
      · rename_i c1
        split at h
        · exact absurd h (by simp)
        · rename_i c2
          have := (placeN_lt _ _ _ hk).1
          rw [globL_len] at this
          rw [if_neg c1, if_neg c2]
          simp only; omega
end Go.Al
namespace Go.Proofs.Ytnbokmbjiioooaa
open Go.Al
set_option maxHeartbeats 4000000 in
theorem names16_con (p : Pg) (hp : p.few) : PCon env 32 [p.av] (.bool (namesB p)) := by
  have hok := hp.ok
  have ga := hp.f
  have hglob := Globals_con p hp
  have hun := unlike_con (globL p) (by have := hp.gl; simp only [fitL]; omega)
  have hfind := fun i hi s => Find_con p hp i hi s
  have hbd := fun i s => findF_bd p i s (by have := hp.gl; omega) (fun f hf => by have := hp.nl f hf; omega)
  have hN : namesB p = (decide (globL p).Nodup && namesFrom p 0 p.funs) := rfl
  have hok2 : ∀ (i : Nat) (u : Us), okUse p i u = !((decide (u.kind = 1) && !decide ((findF p i u.name).1 = 1) && !decide ((findF p i u.name).1 = 2)) || (decide (u.kind = 3) && !decide ((findF p i u.name).1 = 3)) || (decide (u.kind = 4) && (!decide ((findF p i u.name).1 = 4) || decide ((i : Int) ≤ (findF p i u.name).2)))) := fun _ _ => rfl
  have hstep : ∀ (i : Nat) (f : Fu) (l : List Fu), namesFrom p i (f :: l) = (decide (namesL f).Nodup && (usesS f.body).all (okUse p i) && namesFrom p (i + 1) l) := fun _ _ _ => rfl
  have hfs := hp.fs
  have hokf := hok.funs
  have hnil : ∀ i : Nat, namesFrom p i [] = true := fun _ => rfl
  generalize findF p = FF at *
  generalize namesFrom p = NF at *
  generalize okUse p = OU at *
  generalize globL p = G at *
  generalize namesB p = res at hN ⊢
  obtain ⟨vs, aa, fs⟩ := p
  simp only [Pg.av, Pg.row] at hglob hfind ⊢
  simp only at ga hfs hokf hN
  refine con_of 94 [.tmp 2] Try.func32 rfl rfl rfl rfl ?_
  refine awp_cutK (fun fr H => ∃ b, fr 1 = .ptr 3 b 0 0 ∧ H b = some (.rows 3 [[.isl 1 (vs.map strRow), .isl 2 (aa.map Ar.row), .isl 5 (fs.map Fu.row)]])) (fun K hK => ?_) ?_
  · refine awp_region rfl ?_; simp only [RR, seval]
    refine awpN_intro fun b hb => ?_; simp only [RR, seval]
    exact hK _ _ ⟨b, rfl, upd_same _ _ _⟩
  rintro fr H ⟨b, f1, hb⟩
  refine awp_seq ?_
  refine awp_seq_k fun K hK => ?_; refine awp_region rfl ?_; simp only [RR, seval]
  simp only [f1, hb, RR, seval]
  refine awpC_pure' hglob ?_; simp only [RR, seval]
  refine awpC_pure' hun ?_; simp only [RR, seval]
  refine hK _ _ ?_; clear hK K
  refine awp_if (!decide G.Nodup) rfl (fun hc => ?_) (fun hc => ?_)
  · repeat' (first | (refine awp_seq_k fun K hK => ?_; refine awp_region rfl ?_; simp only [f1, RR, seval]; refine hK _ _ ?_; clear hK K) | (refine awp_seq ?_) | (refine awp_block ?_) | (refine awp_if true rfl (fun _ => ?_) (fun hc => by cases hc)) | (refine awp_if false rfl (fun hc => by cases hc) (fun _ => ?_)) | (refine awp_skip ?_; simp only [thenQ, blockQ]) | (refine awp_exit ?_; simp only [thenQ, blockQ, reduceIte, Nat.reduceEqDiff]) | (refine awp_region rfl ?_; simp only [f1, thenQ, blockQ, RR, seval]) | (refine awpG_splitN (fun h => ?_) (fun h => ?_) <;> simp only [h, f1, thenQ, blockQ, RR, seval]) | (refine awpG_split (fun h => ?_) (fun h => ?_) <;> simp only [h, f1, thenQ, blockQ, RR, seval]) | (refine awp_if _ rfl (fun h => ?_) (fun h => ?_)) | (refine awp_ret ?_; simp only [thenQ, blockQ, bodyQ, aresult, ares, argF, f1, RR, seval]; refine Gives.pure ?_))
    rw [hN, show decide G.Nodup = false by simpa using hc]; rfl
  rw [show decide G.Nodup = true by simpa using hc, Bool.true_and] at hN
  refine awp_skip ?_; simp only [thenQ, blockQ]
  refine awp_cutK (fun fr H => res = true) (fun K hK => ?_) ?_
  · refine awp_seq_k fun K hK => ?_; refine awp_region rfl ?_; simp only [RR, seval]
    refine hK _ _ ?_; clear hK K
    refine awp_block ?_
    refine awp_loopK (fun mm fr H => ∃ k : Nat, mm = fs.length - k ∧ k ≤ fs.length ∧ fr 3 = .int .i64 k ∧ fr 1 = .ptr 3 b 0 0 ∧ H b = some (.rows 3 [[.isl 1 (vs.map strRow), .isl 2 (aa.map Ar.row), .isl 5 (fs.map Fu.row)]]) ∧ res = NF k (fs.drop k)) (fs.length) ⟨0, rfl, Nat.zero_le _, rfl, f1, hb, by rw [List.drop_zero]; exact hN⟩ ?_
    rintro mm fr H ⟨k, rfl, hkk, hik, f1, hb, hall⟩ K2 hK2
    refine awp_seq ?_
    refine awp_seq_k fun K hK => ?_; refine awp_region rfl ?_; simp only [RR, seval]
    simp only [hik, f1, hb,List.length_map, RR, seval]
    refine hK _ _ ?_; clear hK K
    refine awp_if _ rfl (fun hc => ?_) (fun hc => ?_)
    · have hltk : k < fs.length := by have := of_decide_eq_true hc; omega
      clear hc
      refine awp_skip ?_; simp only [thenQ, blockQ]
      refine awp_seq ?_
      refine awp_block ?_
      have hg := getF (List.getElem?_eq_getElem hltk)
      have hfsk := hfs _ (List.getElem_mem hltk)
      have hokk := hokf _ (List.getElem_mem hltk)
      rw [List.drop_eq_getElem_cons hltk, hstep] at hall
      generalize fs[k] = g at hg hfsk hokk hall
      have hnm := Names_con g (by omega) (by omega)
      have hun := unlike_con (namesL g) (by simp only [fitL, namesL, List.length_append]; omega)
      have hus := Uses_con _ g.body rfl (by omega) hokk.body
      have hul := usesS_len _ g.body rfl
      refine awp_seq ?_
      refine awp_seq_k fun K hK => ?_; refine awp_region rfl ?_; simp only [RR, seval]
      simp only [f1, hb, hik, hg, RR, seval]
      refine awpC_pure' hnm ?_; simp only [RR, seval]
      refine awpC_pure' hun ?_; simp only [RR, seval]
      refine hK _ _ ?_; clear hK K
      refine awp_if (!decide (namesL g).Nodup) rfl (fun hc => ?_) (fun hc => ?_)
      · repeat' (first | (refine awp_seq_k fun K hK => ?_; refine awp_region rfl ?_; simp only [f1, RR, seval]; refine hK _ _ ?_; clear hK K) | (refine awp_seq ?_) | (refine awp_block ?_) | (refine awp_if true rfl (fun _ => ?_) (fun hc => by cases hc)) | (refine awp_if false rfl (fun hc => by cases hc) (fun _ => ?_)) | (refine awp_skip ?_; simp only [thenQ, blockQ]) | (refine awp_exit ?_; simp only [thenQ, blockQ, reduceIte, Nat.reduceEqDiff]) | (refine awp_region rfl ?_; simp only [f1, thenQ, blockQ, RR, seval]) | (refine awpG_splitN (fun h => ?_) (fun h => ?_) <;> simp only [h, f1, thenQ, blockQ, RR, seval]) | (refine awpG_split (fun h => ?_) (fun h => ?_) <;> simp only [h, f1, thenQ, blockQ, RR, seval]) | (refine awp_if _ rfl (fun h => ?_) (fun h => ?_)) | (refine awp_ret ?_; simp only [thenQ, blockQ, bodyQ, aresult, ares, argF, f1, RR, seval]; refine Gives.pure ?_))
        rw [hall, show decide (namesL g).Nodup = false by simpa using hc]; rfl
      rw [show decide (namesL g).Nodup = true by simpa using hc, Bool.true_and] at hall
      refine awp_skip ?_; simp only [thenQ, blockQ]
      refine awp_seq_k fun K hK => ?_; refine awp_region rfl ?_; simp only [RR, seval]
      simp only [f1, hb, hik, hg, RR, seval]
      refine awpC_pure' hus ?_; simp only [RR, seval]
      refine hK _ _ ?_; clear hK K
      generalize usesS g.body = us at hall hul
      refine awp_seq_k fun K hK => ?_; refine awp_region rfl ?_; simp only [RR, seval]
      refine hK _ _ ?_; clear hK K
      refine awp_block ?_
      refine awp_loopK (fun mm fr H => ∃ j : Nat, mm = us.length - j ∧ j ≤ us.length ∧ fr 5 = .int .i64 j ∧ fr 1 = .ptr 3 b 0 0 ∧ H b = some (.rows 3 [[.isl 1 (vs.map strRow), .isl 2 (aa.map Ar.row), .isl 5 (fs.map Fu.row)]]) ∧ fr 3 = .int .i64 k ∧ fr 4 = .isl 3 (us.map Us.row) ∧ us.all (OU k) = (us.drop j).all (OU k)) (us.length) ⟨0, rfl, Nat.zero_le _, rfl, f1, hb, hik, rfl, by rw [List.drop_zero]⟩ ?_
      rintro mm fr H ⟨j, rfl, hkj, hij, f1, hb, hik, f4, hua⟩ K3 hK3
      refine awp_seq ?_
      refine awp_seq_k fun K hK => ?_; refine awp_region rfl ?_; simp only [RR, seval]
      simp only [hij, f4,List.length_map, RR, seval]
      refine hK _ _ ?_; clear hK K
      refine awp_if _ rfl (fun hc => ?_) (fun hc => ?_)
      · have hltj : j < us.length := by have := of_decide_eq_true hc; omega
        clear hc
        refine awp_skip ?_; simp only [thenQ, blockQ]
        refine awp_seq ?_
        refine awp_block ?_
        have hgu := getU (List.getElem?_eq_getElem hltj)
        rw [List.drop_eq_getElem_cons hltj, List.all_cons] at hua
        generalize us[j] = u at hgu hua
        have hfn := hfind k hltk u.name
        have hbk := hbd k u.name
        have hou := hok2 k u
        generalize FF k u.name = r at hfn hbk hou
        refine awp_seq_k fun K hK => ?_
        refine awp_region_draw (fun x => x ≠ b) [(0, true), (1, true), (2, true), (3, true), (4, true), (5, true), (6, true), (7, true), (8, true), (9, true), (10, true), (11, true), (12, true)] draws (by kernel_rfl) rfl ?_
        simp only [emit, markOf, f1, hb, hik, hij, f4, hgu, awpL_entry, touch_ptr, touch_ipt, RR, seval]
        refine awpC_pure' hfn ?_
        simp only [f1, hb, hik, hij, f4, hgu, awpL_entry, touch_ptr, touch_ipt, RR, seval]
        refine hK _ _ ?_; clear hK K
        refine awp_cutK (fun fr H => fr 93 = .bool (!OU k u) ∧ fr 1 = .ptr 3 b 0 0 ∧ H b = some (.rows 3 [[.isl 1 (vs.map strRow), .isl 2 (aa.map Ar.row), .isl 5 (fs.map Fu.row)]]) ∧ fr 3 = .int .i64 k ∧ fr 4 = .isl 3 (us.map Us.row) ∧ fr 5 = .int .i64 j) (fun K hK => ?_) ?_
        · refine awp_region rfl ?_; simp only [RR, seval]
          simp only [hik, hij, f4, hgu, RR, seval]
          repeat' ((first | refine awpG_splitN (fun h => ?_) (fun h => ?_) | refine awpG_split (fun h => ?_) (fun h => ?_)) <;> simp only [h, hik, hij, f4, hgu, RR, seval])
          all_goals
            refine hK _ _ ⟨?_, f1, hb, hik, f4, hij⟩
            clear hK hK2 hK3
            simp [upd, hou, *]
        · rintro fr H ⟨f93, f1, hb, hik, f4, hij⟩
          refine awp_if (!OU k u) f93 (fun hc => ?_) (fun hc => ?_)
          · repeat' (first | (refine awp_seq_k fun K hK => ?_; refine awp_region rfl ?_; simp only [f1, RR, seval]; refine hK _ _ ?_; clear hK K) | (refine awp_seq ?_) | (refine awp_block ?_) | (refine awp_if true rfl (fun _ => ?_) (fun hc => by cases hc)) | (refine awp_if false rfl (fun hc => by cases hc) (fun _ => ?_)) | (refine awp_skip ?_; simp only [thenQ, blockQ]) | (refine awp_exit ?_; simp only [thenQ, blockQ, reduceIte, Nat.reduceEqDiff]) | (refine awp_region rfl ?_; simp only [f1, thenQ, blockQ, RR, seval]) | (refine awpG_splitN (fun h => ?_) (fun h => ?_) <;> simp only [h, f1, thenQ, blockQ, RR, seval]) | (refine awpG_split (fun h => ?_) (fun h => ?_) <;> simp only [h, f1, thenQ, blockQ, RR, seval]) | (refine awp_if _ rfl (fun h => ?_) (fun h => ?_)) | (refine awp_ret ?_; simp only [thenQ, blockQ, bodyQ, aresult, ares, argF, f1, RR, seval]; refine Gives.pure ?_))
            rw [hall, hua, show OU k u = false by simpa using hc]; rfl
          · rw [show OU k u = true by simpa using hc, Bool.true_and] at hua
            refine awp_skip ?_; simp only [thenQ, blockQ]
            refine awp_region rfl ?_; simp only [RR, seval]
            simp only [hij, thenQ, blockQ, RR, seval]
            rw [IntWalk.i64_in _ (by omega)]
            refine hK3 (us.length - (j + 1)) _ _ (by omega) ⟨j + 1, rfl, by omega, rfl, f1, hb, hik, f4, hua⟩
      · refine awp_exit ?_; simp only [thenQ, blockQ, reduceIte, Nat.reduceEqDiff]
        have hknj : j = us.length := by have := of_decide_eq_false hc; omega
        clear hc
        subst hknj
        rw [List.drop_length] at hua
        rw [hua, List.all_nil, Bool.true_and] at hall
        try simp only [thenQ, blockQ]
        refine awp_region rfl ?_; simp only [RR, seval]
        simp only [hik, thenQ, blockQ, RR, seval]
        rw [IntWalk.i64_in _ (by omega)]
        refine hK2 (fs.length - (k + 1)) _ _ (by omega) ⟨k + 1, rfl, by omega, rfl, f1, hb, hall⟩
    · refine awp_exit ?_; simp only [thenQ, blockQ, reduceIte, Nat.reduceEqDiff]
      have hknk : k = fs.length := by have := of_decide_eq_false hc; omega
      clear hc
      subst hknk
      rw [List.drop_length, hnil] at hall
      exact hK _ _ hall
  · rintro fr H h0
    repeat' (first | (refine awp_seq_k fun K hK => ?_; refine awp_region rfl ?_; simp only [h0, RR, seval]; refine hK _ _ ?_; clear hK K) | (refine awp_seq ?_) | (refine awp_block ?_) | (refine awp_if true rfl (fun _ => ?_) (fun hc => by cases hc)) | (refine awp_if false rfl (fun hc => by cases hc) (fun _ => ?_)) | (refine awp_skip ?_; simp only [thenQ, blockQ]) | (refine awp_exit ?_; simp only [thenQ, blockQ, reduceIte, Nat.reduceEqDiff]) | (refine awp_region rfl ?_; simp only [h0, thenQ, blockQ, RR, seval]) | (refine awpG_splitN (fun h => ?_) (fun h => ?_) <;> simp only [h, h0, thenQ, blockQ, RR, seval]) | (refine awpG_split (fun h => ?_) (fun h => ?_) <;> simp only [h, h0, thenQ, blockQ, RR, seval]) | (refine awp_if _ rfl (fun h => ?_) (fun h => ?_)) | (refine awp_ret ?_; simp only [thenQ, blockQ, bodyQ, aresult, ares, argF, h0, RR, seval]; refine Gives.pure ?_))
    rfl
end Go.Proofs.Ytnbokmbjiioooaa

namespace Go.Al
def intRow (n : Int) : List AV := [.int .i64 n]
def intsRow (l : List Int) : List AV := [.isl 1 (l.map intRow)]
theorem getI {l : List Int} {i : Nat} {n : Int} (h : l[i]? = some n) : (l.map intRow)[i]? = some [.int .i64 n] := getRow _ h
theorem getII {l : List (List Int)} {i : Nat} {n : List Int} (h : l[i]? = some n) : (l.map intsRow)[i]? = some [.isl 1 (n.map intRow)] := getRow _ h
end Go.Al
namespace Go.Proofs.Ytnbokmbjiioooaa
open Go.Al
set_option maxHeartbeats 4000000 in
theorem numbers16_con (p : Pg) (hp : p.few) (hn : namesB p = true) (h1 : 1 ≤ p.funs.length) : PCon env 33 [p.av] (.bool (numsB p)) := by
  have hok := hp.ok
  have ga := hp.f
  have hfind := fun i hi s => Find_con p hp i hi s
  have hN : numsB p = (numsFrom p 0 p.funs && lastB p) := rfl
  have hL : lastB p = match p.funs[p.funs.length - 1]? with | some g => decide (g.name = mainS) && decide (g.params.length = 0) && !g.word | none => false := rfl
  have hok2 : ∀ (i : Nat) (u : Us), numU p i u = (!decide (u.kind = 4) || (match p.funs[(findF p i u.name).2.toNat]? with | some g => decide ((g.params.length : Int) = u.num) | none => false)) := fun _ _ => rfl
  have hstep : ∀ (i : Nat) (f : Fu) (l : List Fu), numsFrom p i (f :: l) = ((usesS f.body).all (numU p i) && numsFrom p (i + 1) l) := fun _ _ _ => rfl
  have hnil : ∀ i : Nat, numsFrom p i [] = true := fun _ => rfl
  have hcall : ∀ (i : Nat) f, p.funs[i]? = some f → ∀ u ∈ usesS f.body, u.kind = 4 → 0 ≤ (findF p i u.name).2 ∧ (findF p i u.name).2 < p.funs.length := fun i f hf u hu hk => by
    simp only [namesB, Bool.and_eq_true] at hn
    have h2 := (namesFrom_get p p.funs 0 hn.2 i f hf).2
    rw [List.all_eq_true, Nat.zero_add] at h2
    have h3 := h2 u hu
    refine findF_call p i u.name ?_
    simp only [okUse, hk, decide_true, Bool.true_and] at h3
    by_cases h4 : (findF p i u.name).1 = 4
    · exact h4
    · simp [h4] at h3
  have hfs := hp.fs
  have hokf := hok.funs
  generalize lastB p = LB at *
  generalize numsFrom p = NF at *
  generalize numU p = OU at *
  generalize findF p = FF at *
  generalize numsB p = res at hN ⊢
  obtain ⟨vs, aa, fs⟩ := p
  simp only [Pg.av, Pg.row] at hfind ⊢
  simp only at ga hfs hokf hN hcall hok2 hL h1
  refine con_of 81 [.tmp 2] Try.func33 rfl rfl rfl rfl ?_
  refine awp_cutK (fun fr H => ∃ b, fr 1 = .ptr 3 b 0 0 ∧ H b = some (.rows 3 [[.isl 1 (vs.map strRow), .isl 2 (aa.map Ar.row), .isl 5 (fs.map Fu.row)]])) (fun K hK => ?_) ?_
  · refine awp_region rfl ?_; simp only [RR, seval]
    refine awpN_intro fun b hb => ?_; simp only [RR, seval]
    exact hK _ _ ⟨b, rfl, upd_same _ _ _⟩
  rintro fr H ⟨b, f1, hb⟩
  refine awp_cutK (fun fr H => res = LB ∧ fr 1 = .ptr 3 b 0 0 ∧ H b = some (.rows 3 [[.isl 1 (vs.map strRow), .isl 2 (aa.map Ar.row), .isl 5 (fs.map Fu.row)]])) (fun K hK => ?_) ?_
  · refine awp_seq_k fun K hK => ?_; refine awp_region rfl ?_; simp only [RR, seval]
    refine hK _ _ ?_; clear hK K
    refine awp_block ?_
    refine awp_loopK (fun mm fr H => ∃ k : Nat, mm = fs.length - k ∧ k ≤ fs.length ∧ fr 3 = .int .i64 k ∧ fr 1 = .ptr 3 b 0 0 ∧ H b = some (.rows 3 [[.isl 1 (vs.map strRow), .isl 2 (aa.map Ar.row), .isl 5 (fs.map Fu.row)]]) ∧ res = (NF k (fs.drop k) && LB)) (fs.length) ⟨0, rfl, Nat.zero_le _, rfl, f1, hb, by rw [List.drop_zero]; exact hN⟩ ?_
    rintro mm fr H ⟨k, rfl, hkk, hik, f1, hb, hall⟩ K2 hK2
    refine awp_seq ?_
    refine awp_seq_k fun K hK => ?_; refine awp_region rfl ?_; simp only [RR, seval]
    simp only [hik, f1, hb,List.length_map, RR, seval]
    refine hK _ _ ?_; clear hK K
    refine awp_if _ rfl (fun hc => ?_) (fun hc => ?_)
    · have hltk : k < fs.length := by have := of_decide_eq_true hc; omega
      clear hc
      refine awp_skip ?_; simp only [thenQ, blockQ]
      refine awp_seq ?_
      refine awp_block ?_
      have hg0 := List.getElem?_eq_getElem hltk
      have hg := getF hg0
      have hfsk := hfs _ (List.getElem_mem hltk)
      have hokk := hokf _ (List.getElem_mem hltk)
      have hck := hcall k _ hg0
      rw [List.drop_eq_getElem_cons hltk, hstep] at hall
      generalize fs[k] = g at hg hfsk hokk hall hck
      have hus := Uses_con _ g.body rfl (by omega) hokk.body
      have hul := usesS_len _ g.body rfl
      refine awp_seq_k fun K hK => ?_; refine awp_region rfl ?_; simp only [RR, seval]
      simp only [f1, hb, hik, hg, RR, seval]
      refine awpC_pure' hus ?_; simp only [RR, seval]
      refine hK _ _ ?_; clear hK K
      generalize usesS g.body = us at hall hul hck
      refine awp_seq_k fun K hK => ?_; refine awp_region rfl ?_; simp only [RR, seval]
      refine hK _ _ ?_; clear hK K
      refine awp_block ?_
      refine awp_loopK (fun mm fr H => ∃ j : Nat, mm = us.length - j ∧ j ≤ us.length ∧ fr 5 = .int .i64 j ∧ fr 1 = .ptr 3 b 0 0 ∧ H b = some (.rows 3 [[.isl 1 (vs.map strRow), .isl 2 (aa.map Ar.row), .isl 5 (fs.map Fu.row)]]) ∧ fr 3 = .int .i64 k ∧ fr 4 = .isl 3 (us.map Us.row) ∧ us.all (OU k) = (us.drop j).all (OU k)) (us.length) ⟨0, rfl, Nat.zero_le _, rfl, f1, hb, hik, rfl, by rw [List.drop_zero]⟩ ?_
      rintro mm fr H ⟨j, rfl, hkj, hij, f1, hb, hik, f4, hua⟩ K3 hK3
      refine awp_seq ?_
      refine awp_seq_k fun K hK => ?_; refine awp_region rfl ?_; simp only [RR, seval]
      simp only [hij, f4,List.length_map, RR, seval]
      refine hK _ _ ?_; clear hK K
      refine awp_if _ rfl (fun hc => ?_) (fun hc => ?_)
      · have hltj : j < us.length := by have := of_decide_eq_true hc; omega
        clear hc
        refine awp_skip ?_; simp only [thenQ, blockQ]
        refine awp_seq ?_
        refine awp_block ?_
        have hgu := getU (List.getElem?_eq_getElem hltj)
        have hcu := hck _ (List.getElem_mem hltj)
        rw [List.drop_eq_getElem_cons hltj, List.all_cons] at hua
        generalize us[j] = u at hgu hua hcu
        have hou := hok2 k u
        by_cases hk4 : u.kind = 4
        · have hfn := hfind k hltk u.name
          obtain ⟨c1, c2⟩ := hcu hk4
          generalize FF k u.name = r at hfn hou c1 c2
          obtain ⟨n, hn2⟩ := Int.eq_ofNat_of_zero_le c1
          have hnl : n < fs.length := by omega
          have hgn := getF (List.getElem?_eq_getElem hnl)
          rw [hn2, Int.toNat_natCast, List.getElem?_eq_getElem hnl, hk4] at hou
          simp only [decide_true, Bool.not_true, Bool.false_or] at hou
          generalize fs[n] = gn at hgn hou
          have k4 : decide (u.kind = 4) = true := decide_eq_true hk4
          refine awp_seq ?_
          refine awp_seq_k fun K hK => ?_; refine awp_region rfl ?_; simp only [RR, seval]
          simp only [hij, f4, hgu, k4, RR, seval]
          refine hK _ _ ?_; clear hK K
          refine awp_if false rfl (fun hc => by cases hc) (fun _ => ?_)
          refine awp_skip ?_; simp only [thenQ, blockQ]
          refine awp_seq_k fun K hK => ?_
          refine awp_region_draw (fun x => x ≠ b) [(0, true), (1, true), (2, true), (3, true), (4, true), (5, true), (6, true), (7, true), (8, true), (9, true), (10, true), (11, true), (12, true)] draws (by kernel_rfl) rfl ?_
          simp only [emit, markOf, f1, hb, hik, hij, f4, hgu, awpL_entry, touch_ptr, touch_ipt, RR, seval]
          refine awpC_pure' hfn ?_
          simp only [f1, hb, hik, hij, f4, hgu, hn2, awpL_entry, touch_ptr, touch_ipt, RR, seval]
          refine hK _ _ ?_; clear hK K
          refine awp_seq_k fun K hK => ?_
          refine awp_region_draw (fun x => x ≠ b) [(0, true), (1, true), (2, true), (3, true), (4, true), (5, true), (6, true), (7, true), (8, true), (9, true), (10, true), (11, true), (12, true)] draws (by kernel_rfl) rfl ?_
          simp only [emit, markOf, f1, hb, hik, hij, f4, hgu, hgn, awpL_entry, touch_ptr, touch_ipt, List.length_map, RR, seval]
          refine hK _ _ ?_; clear hK K
          refine awp_if (!decide ((gn.params.length : Int) = u.num)) rfl (fun hc => ?_) (fun hc => ?_)
          · repeat' (first | (refine awp_seq_k fun K hK => ?_; refine awp_region rfl ?_; simp only [f1, RR, seval]; refine hK _ _ ?_; clear hK K) | (refine awp_seq ?_) | (refine awp_block ?_) | (refine awp_if true rfl (fun _ => ?_) (fun hc => by cases hc)) | (refine awp_if false rfl (fun hc => by cases hc) (fun _ => ?_)) | (refine awp_skip ?_; simp only [thenQ, blockQ]) | (refine awp_exit ?_; simp only [thenQ, blockQ, reduceIte, Nat.reduceEqDiff]) | (refine awp_region rfl ?_; simp only [f1, thenQ, blockQ, RR, seval]) | (refine awpG_splitN (fun h => ?_) (fun h => ?_) <;> simp only [h, f1, thenQ, blockQ, RR, seval]) | (refine awpG_split (fun h => ?_) (fun h => ?_) <;> simp only [h, f1, thenQ, blockQ, RR, seval]) | (refine awp_if _ rfl (fun h => ?_) (fun h => ?_)) | (refine awp_ret ?_; simp only [thenQ, blockQ, bodyQ, aresult, ares, argF, f1, RR, seval]; refine Gives.pure ?_))
            rw [hall, hua, hou, show decide ((gn.params.length : Int) = u.num) = false by simpa using hc]; rfl
          · rw [hou, show decide ((gn.params.length : Int) = u.num) = true by simpa using hc, Bool.true_and] at hua
            refine awp_skip ?_; simp only [thenQ, blockQ]
            refine awp_region rfl ?_; simp only [RR, seval]
            simp only [hij, thenQ, blockQ, RR, seval]
            rw [IntWalk.i64_in _ (by omega)]
            refine hK3 (us.length - (j + 1)) _ _ (by omega) ⟨j + 1, rfl, by omega, rfl, f1, hb, hik, f4, hua⟩
        · have k4 : decide (u.kind = 4) = false := decide_eq_false hk4
          rw [k4] at hou
          simp only [Bool.not_false, Bool.true_or] at hou
          rw [hou, Bool.true_and] at hua
          refine awp_seq ?_
          refine awp_seq_k fun K hK => ?_; refine awp_region rfl ?_; simp only [RR, seval]
          simp only [hij, f4, hgu, k4, RR, seval]
          refine hK _ _ ?_; clear hK K
          refine awp_if true rfl (fun _ => ?_) (fun hc => by cases hc)
          refine awp_exit ?_; simp only [thenQ, blockQ, reduceIte, Nat.reduceEqDiff]
          refine awp_region rfl ?_; simp only [RR, seval]
          simp only [hij, thenQ, blockQ, RR, seval]
          rw [IntWalk.i64_in _ (by omega)]
          refine hK3 (us.length - (j + 1)) _ _ (by omega) ⟨j + 1, rfl, by omega, rfl, f1, hb, hik, f4, hua⟩
      · refine awp_exit ?_; simp only [thenQ, blockQ, reduceIte, Nat.reduceEqDiff]
        have hknj : j = us.length := by have := of_decide_eq_false hc; omega
        clear hc
        subst hknj
        rw [List.drop_length] at hua
        rw [hua, List.all_nil, Bool.true_and] at hall
        try simp only [thenQ, blockQ]
        refine awp_region rfl ?_; simp only [RR, seval]
        simp only [hik, thenQ, blockQ, RR, seval]
        rw [IntWalk.i64_in _ (by omega)]
        refine hK2 (fs.length - (k + 1)) _ _ (by omega) ⟨k + 1, rfl, by omega, rfl, f1, hb, hall⟩
    · refine awp_exit ?_; simp only [thenQ, blockQ, reduceIte, Nat.reduceEqDiff]
      have hknk : k = fs.length := by have := of_decide_eq_false hc; omega
      clear hc
      subst hknk
      rw [List.drop_length, hnil, Bool.true_and] at hall
      exact hK _ _ ⟨hall, f1, hb⟩
  · rintro fr H ⟨hres, f1, hb⟩
    have hlt : fs.length - 1 < fs.length := by omega
    have hg := getF (List.getElem?_eq_getElem hlt)
    rw [List.getElem?_eq_getElem hlt] at hL
    generalize fs[fs.length - 1] = g at hg hL
    have w1 : IntKind.wrap .i64 ((fs.length : Int) - 1) = ((fs.length - 1 : Nat) : Int) := by rw [IntWalk.i64_in _ (by omega)]; omega
    have d1 : decide ((g.params.length : Int) = 0) = decide (g.params.length = 0) := by rw [Bool.eq_iff_iff]; simp only [decide_eq_true_eq]; omega
    refine awp_seq_k fun K hK => ?_; refine awp_region rfl ?_; simp only [RR, seval]
    simp only [f1, hb, w1, hg, List.length_map, RR, seval]
    refine awpN_intro fun b1 hb1 => ?_
    simp only [RR, seval]
    refine hK _ _ ?_; clear hK K
    have hH1 : (upd (upd H b1 (some (.rows 5 [[.str [], .nsl, .nsl, .bool false, .nsl]]))) b1 (some (.rows 5 [[.str g.name, .isl 1 (g.params.map strRow), .isl 1 (g.locs.map strRow), .bool g.word, .isl 5 (g.body.map Sm.row)]]))) b1 = some (.rows 5 [[.str g.name, .isl 1 (g.params.map strRow), .isl 1 (g.locs.map strRow), .bool g.word, .isl 5 (g.body.map Sm.row)]]) := upd_same _ _ _
    generalize (upd (upd H b1 (some (.rows 5 [[.str [], .nsl, .nsl, .bool false, .nsl]]))) b1 (some (.rows 5 [[.str g.name, .isl 1 (g.params.map strRow), .isl 1 (g.locs.map strRow), .bool g.word, .isl 5 (g.body.map Sm.row)]]))) = H1 at hH1 ⊢
    simp only at hL
    subst hres
    rw [hL]
    cases e1 : decide (g.name = mainS) with
    | false =>
      have e1' : decide (g.name = [109, 97, 105, 110]) = false := e1
      repeat' (first | (refine awp_seq_k fun K hK => ?_; refine awp_region rfl ?_; simp only [hH1, e1', d1, List.length_map, RR, seval]; refine hK _ _ ?_; clear hK K) | (refine awp_seq ?_) | (refine awp_block ?_) | (refine awp_if true rfl (fun _ => ?_) (fun hc => by cases hc)) | (refine awp_if false rfl (fun hc => by cases hc) (fun _ => ?_)) | (refine awp_skip ?_; simp only [thenQ, blockQ]) | (refine awp_exit ?_; simp only [thenQ, blockQ, reduceIte, Nat.reduceEqDiff]) | (refine awp_region rfl ?_; simp only [hH1, e1', d1, List.length_map, thenQ, blockQ, RR, seval]) | (refine awpG_splitN (fun h => ?_) (fun h => ?_) <;> simp only [h, hH1, e1', d1, List.length_map, thenQ, blockQ, RR, seval]) | (refine awpG_split (fun h => ?_) (fun h => ?_) <;> simp only [h, hH1, e1', d1, List.length_map, thenQ, blockQ, RR, seval]) | (refine awp_if _ rfl (fun h => ?_) (fun h => ?_)) | (refine awp_ret ?_; simp only [thenQ, blockQ, bodyQ, aresult, ares, argF, hH1, e1', d1, List.length_map, RR, seval]; refine Gives.pure ?_))
      rfl
    | true =>
      have e1' : decide (g.name = [109, 97, 105, 110]) = true := e1
      cases e2 : decide (g.params.length = 0) with
      | false =>
        rw [e2] at d1
        repeat' (first | (refine awp_seq_k fun K hK => ?_; refine awp_region rfl ?_; simp only [hH1, e1', d1, List.length_map, RR, seval]; refine hK _ _ ?_; clear hK K) | (refine awp_seq ?_) | (refine awp_block ?_) | (refine awp_if true rfl (fun _ => ?_) (fun hc => by cases hc)) | (refine awp_if false rfl (fun hc => by cases hc) (fun _ => ?_)) | (refine awp_skip ?_; simp only [thenQ, blockQ]) | (refine awp_exit ?_; simp only [thenQ, blockQ, reduceIte, Nat.reduceEqDiff]) | (refine awp_region rfl ?_; simp only [hH1, e1', d1, List.length_map, thenQ, blockQ, RR, seval]) | (refine awpG_splitN (fun h => ?_) (fun h => ?_) <;> simp only [h, hH1, e1', d1, List.length_map, thenQ, blockQ, RR, seval]) | (refine awpG_split (fun h => ?_) (fun h => ?_) <;> simp only [h, hH1, e1', d1, List.length_map, thenQ, blockQ, RR, seval]) | (refine awp_if _ rfl (fun h => ?_) (fun h => ?_)) | (refine awp_ret ?_; simp only [thenQ, blockQ, bodyQ, aresult, ares, argF, hH1, e1', d1, List.length_map, RR, seval]; refine Gives.pure ?_))
        rfl
      | true =>
        rw [e2] at d1
        repeat' (first | (refine awp_seq_k fun K hK => ?_; refine awp_region rfl ?_; simp only [hH1, e1', d1, List.length_map, RR, seval]; refine hK _ _ ?_; clear hK K) | (refine awp_seq ?_) | (refine awp_block ?_) | (refine awp_if true rfl (fun _ => ?_) (fun hc => by cases hc)) | (refine awp_if false rfl (fun hc => by cases hc) (fun _ => ?_)) | (refine awp_skip ?_; simp only [thenQ, blockQ]) | (refine awp_exit ?_; simp only [thenQ, blockQ, reduceIte, Nat.reduceEqDiff]) | (refine awp_region rfl ?_; simp only [hH1, e1', d1, List.length_map, thenQ, blockQ, RR, seval]) | (refine awpG_splitN (fun h => ?_) (fun h => ?_) <;> simp only [h, hH1, e1', d1, List.length_map, thenQ, blockQ, RR, seval]) | (refine awpG_split (fun h => ?_) (fun h => ?_) <;> simp only [h, hH1, e1', d1, List.length_map, thenQ, blockQ, RR, seval]) | (refine awp_if _ rfl (fun h => ?_) (fun h => ?_)) | (refine awp_ret ?_; simp only [thenQ, blockQ, bodyQ, aresult, ares, argF, hH1, e1', d1, List.length_map, RR, seval]; refine Gives.pure ?_))
        rfl
theorem rCheck_con (p : Pg) (hp : p.few) (h1 : 1 ≤ p.funs.length) : PCon env 12 [p.av] (.int .i64 (checkI p)) := by
  have hnames := names16_con p hp
  have hnums := fun h => numbers16_con p hp h h1
  have hC : checkI p = if namesB p then (if numsB p then 0 else 1) else 4 := rfl
  simp only [Pg.av, Pg.row] at hnames hnums ⊢
  generalize checkI p = res at *
  refine con_of 9 [.tmp 2] Try.func12 rfl rfl rfl rfl ?_
  refine awp_cutK (fun fr H => ∃ b, fr 1 = .ptr 3 b 0 0 ∧ H b = some (.rows 3 [[.isl 1 (p.vars.map strRow), .isl 2 (p.arrs.map Ar.row), .isl 5 (p.funs.map Fu.row)]])) (fun K hK => ?_) ?_
  · refine awp_region rfl ?_; simp only [RR, seval]
    refine awpN_intro fun b hb => ?_; simp only [RR, seval]
    exact hK _ _ ⟨b, rfl, upd_same _ _ _⟩
  rintro fr H ⟨b, f1, hb⟩
  refine awp_seq ?_
  refine awp_seq_k fun K hK => ?_; refine awp_region rfl ?_; simp only [RR, seval]
  simp only [f1, hb, RR, seval]
  refine awpC_pure' hnames ?_; simp only [RR, seval]
  refine hK _ _ ?_; clear hK K
  cases hn : namesB p with
  | false =>
    rw [hn] at hC
    repeat' (first | (refine awp_seq_k fun K hK => ?_; refine awp_region rfl ?_; simp only [hn, RR, seval]; refine hK _ _ ?_; clear hK K) | (refine awp_seq ?_) | (refine awp_block ?_) | (refine awp_if true rfl (fun _ => ?_) (fun hc => by cases hc)) | (refine awp_if false rfl (fun hc => by cases hc) (fun _ => ?_)) | (refine awp_skip ?_; simp only [thenQ, blockQ]) | (refine awp_exit ?_; simp only [thenQ, blockQ, reduceIte, Nat.reduceEqDiff]) | (refine awp_region rfl ?_; simp only [hn, thenQ, blockQ, RR, seval]) | (refine awpG_splitN (fun h => ?_) (fun h => ?_) <;> simp only [h, hn, thenQ, blockQ, RR, seval]) | (refine awpG_split (fun h => ?_) (fun h => ?_) <;> simp only [h, hn, thenQ, blockQ, RR, seval]) | (refine awp_if _ rfl (fun h => ?_) (fun h => ?_)) | (refine awp_ret ?_; simp only [thenQ, blockQ, bodyQ, aresult, ares, argF, hn, RR, seval]; refine Gives.pure ?_))
    rw [hC]; rfl
  | true =>
    rw [hn] at hC
    refine awp_if false (by simp [upd, ev, hn]) (fun hc => by cases hc) (fun _ => ?_)
    refine awp_skip ?_; simp only [thenQ, blockQ]
    refine awp_seq ?_
    refine awp_seq_k fun K hK => ?_; refine awp_region rfl ?_; simp only [RR, seval]
    simp only [f1, hb, RR, seval]
    refine awpC_pure' (hnums hn) ?_; simp only [RR, seval]
    refine hK _ _ ?_; clear hK K
    cases hm : numsB p with
    | false =>
      rw [hm] at hC
      repeat' (first | (refine awp_seq_k fun K hK => ?_; refine awp_region rfl ?_; simp only [hm, RR, seval]; refine hK _ _ ?_; clear hK K) | (refine awp_seq ?_) | (refine awp_block ?_) | (refine awp_if true rfl (fun _ => ?_) (fun hc => by cases hc)) | (refine awp_if false rfl (fun hc => by cases hc) (fun _ => ?_)) | (refine awp_skip ?_; simp only [thenQ, blockQ]) | (refine awp_exit ?_; simp only [thenQ, blockQ, reduceIte, Nat.reduceEqDiff]) | (refine awp_region rfl ?_; simp only [hm, thenQ, blockQ, RR, seval]) | (refine awpG_splitN (fun h => ?_) (fun h => ?_) <;> simp only [h, hm, thenQ, blockQ, RR, seval]) | (refine awpG_split (fun h => ?_) (fun h => ?_) <;> simp only [h, hm, thenQ, blockQ, RR, seval]) | (refine awp_if _ rfl (fun h => ?_) (fun h => ?_)) | (refine awp_ret ?_; simp only [thenQ, blockQ, bodyQ, aresult, ares, argF, hm, RR, seval]; refine Gives.pure ?_))
      rw [hC]; rfl
    | true =>
      rw [hm] at hC
      repeat' (first | (refine awp_seq_k fun K hK => ?_; refine awp_region rfl ?_; simp only [hm, RR, seval]; refine hK _ _ ?_; clear hK K) | (refine awp_seq ?_) | (refine awp_block ?_) | (refine awp_if true rfl (fun _ => ?_) (fun hc => by cases hc)) | (refine awp_if false rfl (fun hc => by cases hc) (fun _ => ?_)) | (refine awp_skip ?_; simp only [thenQ, blockQ]) | (refine awp_exit ?_; simp only [thenQ, blockQ, reduceIte, Nat.reduceEqDiff]) | (refine awp_region rfl ?_; simp only [hm, thenQ, blockQ, RR, seval]) | (refine awpG_splitN (fun h => ?_) (fun h => ?_) <;> simp only [h, hm, thenQ, blockQ, RR, seval]) | (refine awpG_split (fun h => ?_) (fun h => ?_) <;> simp only [h, hm, thenQ, blockQ, RR, seval]) | (refine awp_if _ rfl (fun h => ?_) (fun h => ?_)) | (refine awp_ret ?_; simp only [thenQ, blockQ, bodyQ, aresult, ares, argF, hm, RR, seval]; refine Gives.pure ?_))
      rw [hC]; rfl
end Go.Proofs.Ytnbokmbjiioooaa

namespace Go.Al
/-- does a list of uses call function n (uses of function i)? -/
def isCall (p : Pg) (i n : Nat) (u : Us) : Bool := decide (u.kind = 4) && decide ((findF p i u.name).1 = 4) && decide ((findF p i u.name).2 = n)
def callsRow (p : Pg) (i : Nat) (f : Fu) : List Int := ((List.range p.funs.length).filter fun n => (usesS f.body).any (isCall p i n)).map fun (n : Nat) => (n : Int)
def callsFrom (p : Pg) : Nat → List Fu → List (List Int)
  | _, [] => []
  | i, f :: l => callsRow p i f :: callsFrom p (i + 1) l
def callsP (p : Pg) : List (List Int) := callsFrom p 0 p.funs
theorem callsFrom_len (p : Pg) : ∀ (l : List Fu) (i : Nat), (callsFrom p i l).length = l.length
  | [], _ => rfl
  | f :: l, i => by simp [callsFrom, callsFrom_len p l (i + 1)]
theorem callsFrom_take (p : Pg) : ∀ (l : List Fu) (i k : Nat) (h : k < l.length), callsFrom p i (l.take (k + 1)) = callsFrom p i (l.take k) ++ [callsRow p (i + k) l[k]]
  | f :: l, i, 0, _ => by simp [callsFrom]
  | f :: l, i, k + 1, h => by
    have := callsFrom_take p l (i + 1) k (by simpa using h)
    rw [List.take_succ_cons, List.take_succ_cons, callsFrom, this, callsFrom]
    simp only [List.cons_append, List.getElem_cons_succ]
    rw [show i + 1 + k = i + (k + 1) by omega]
def boolRow (b : Bool) : List AV := [.bool b]
/-- which functions the uses call -/
def thereL (N : Nat) (q : Nat → Us → Bool) (us : List Us) : List Bool := (List.range N).map fun n => us.any (q n)
theorem thereL_nil (N : Nat) (q : Nat → Us → Bool) : thereL N q [] = List.replicate N false := by
  apply List.ext_getElem
  · simp [thereL]
  · intro i h1 h2; simp [thereL]
theorem thereL_none (N : Nat) (q : Nat → Us → Bool) (us : List Us) (u : Us) (h : ∀ n, n < N → q n u = false) : thereL N q (us ++ [u]) = thereL N q us := by
  apply List.ext_getElem
  · simp [thereL]
  · intro i h1 h2
    have : i < N := by simpa [thereL] using h1
    simp [thereL, h i this]
theorem thereL_set (N : Nat) (q : Nat → Us → Bool) (us : List Us) (u : Us) (m : Nat) (hm : m < N) (h : ∀ n, n < N → q n u = decide (n = m)) : thereL N q (us ++ [u]) = (thereL N q us).set m true := by
  apply List.ext_getElem
  · simp [thereL]
  · intro i h1 h2
    have hi : i < N := by simpa [thereL] using h1
    simp only [thereL, List.getElem_map, List.getElem_range, List.any_append, List.any_cons, List.any_nil, Bool.or_false, h i hi, List.getElem_set]
    by_cases e : i = m
    · subst e; simp
    · have e' : ¬ m = i := fun x => e x.symm
      simp [e, e']
theorem oneI (l : List Int) : (l.map intRow).all (fun r => r.all one) = true := by
  rw [List.all_eq_true]; intro r hr; obtain ⟨t, _, rfl⟩ := List.mem_map.1 hr; rfl
theorem oneII (l : List (List Int)) : (l.map intsRow).all (fun r => r.all one) = true := by
  rw [List.all_eq_true]; intro r hr; obtain ⟨t, _, rfl⟩ := List.mem_map.1 hr; rfl
end Go.Al
namespace Go.Proofs.Ytnbokmbjiioooaa
open Go.Al
theorem Same16_con (l m : List (List Int)) (hl : l.length ≤ 1000000) (hm : m.length ≤ 1000000) (hl2 : ∀ x ∈ l, x.length ≤ 1000000) (hm2 : ∀ x ∈ m, x.length ≤ 1000000) : PCon env 13 [.isl 1 (l.map intsRow), .isl 1 (m.map intsRow)] (.bool (decide (l = m))) := by
  refine con_of 53 [.tmp 4] Try.func13 rfl rfl rfl rfl ?_
  refine awp_seq_k fun K hK => ?_; refine awp_region rfl ?_; simp only [RR, seval]
  refine hK _ _ ?_; clear hK K
  refine awp_seq ?_
  refine awp_seq_k fun K hK => ?_; refine awp_region rfl ?_; simp only [RR, seval]
  simp only [List.length_map, RR, seval]
  refine hK _ _ ?_; clear hK K
  by_cases hlm : l.length = m.length
  · have e1 : (l.length : Int) = m.length := by omega
    refine awp_if false (by simp [upd, ev, e1]) (fun hc => by cases hc) (fun _ => ?_)
    refine awp_skip ?_; simp only [thenQ, blockQ]
    generalize hres : decide (l = m) = res
    refine awp_cutK (fun fr H => res = true) (fun K hK => ?_) ?_
    · refine awp_seq_k fun K hK => ?_; refine awp_region rfl ?_; simp only [RR, seval]
      refine hK _ _ ?_; clear hK K
      refine awp_block ?_
      refine awp_loopK (fun mm fr H => ∃ k : Nat, mm = l.length - k ∧ k ≤ l.length ∧ fr 5 = .int .i64 k ∧ fr 0 = .isl 1 (l.map intsRow) ∧ fr 1 = .isl 1 (m.map intsRow) ∧ res = decide (l.drop k = m.drop k)) (l.length) ⟨0, rfl, Nat.zero_le _, rfl, rfl, rfl, by rw [List.drop_zero, List.drop_zero]; exact hres.symm⟩ ?_
      rintro mm fr H ⟨k, rfl, hkk, hik, f0, f1, hall⟩ K2 hK2
      refine awp_seq ?_
      refine awp_seq_k fun K hK => ?_; refine awp_region rfl ?_; simp only [RR, seval]
      simp only [hik, f0,List.length_map, RR, seval]
      refine hK _ _ ?_; clear hK K
      refine awp_if _ rfl (fun hc => ?_) (fun hc => ?_)
      · have hltk : k < l.length := by have := of_decide_eq_true hc; omega
        clear hc
        refine awp_skip ?_; simp only [thenQ, blockQ]
        refine awp_seq ?_
        refine awp_block ?_
        have hltm : k < m.length := by omega
        have hg1 := getII (List.getElem?_eq_getElem hltk)
        have hg2 := getII (List.getElem?_eq_getElem hltm)
        have hx := hl2 _ (List.getElem_mem hltk)
        have hy := hm2 _ (List.getElem_mem hltm)
        rw [List.drop_eq_getElem_cons hltk, List.drop_eq_getElem_cons hltm] at hall
        generalize l[k] = x at hg1 hall hx
        generalize m[k] = y at hg2 hall hy
        have hall : res = (decide (x = y) && decide (l.drop (k + 1) = m.drop (k + 1))) := by
          rw [hall, Bool.eq_iff_iff]; simp only [decide_eq_true_eq, Bool.and_eq_true, List.cons.injEq]
        refine awp_seq ?_
        refine awp_seq_k fun K hK => ?_
        refine awp_region_draw (fun _ => True) [(0, true), (1, true), (2, true), (3, true), (4, true), (5, true), (6, true), (7, true), (8, true), (9, true), (10, true)] draws (by kernel_rfl) rfl ?_
        simp only [emit, markOf, f0, f1, hik, hg1, hg2, awpL_entry, touch_ipt, List.length_map, RR, seval]
        refine hK _ _ ?_; clear hK K
        by_cases hxy : x.length = y.length
        · have e2 : (x.length : Int) = y.length := by omega
          refine awp_if false (by simp [upd, ev, e2]) (fun hc => by cases hc) (fun _ => ?_)
          refine awp_skip ?_; simp only [thenQ, blockQ]
          refine awp_seq_k fun K hK => ?_; refine awp_region rfl ?_; simp only [RR, seval]
          refine hK _ _ ?_; clear hK K
          generalize hres2 : decide (x = y) = res2 at hall
          refine awp_block ?_
          refine awp_loopK (fun mm fr H => ∃ j : Nat, mm = x.length - j ∧ j ≤ x.length ∧ fr 6 = .int .i64 j ∧ fr 0 = .isl 1 (l.map intsRow) ∧ fr 1 = .isl 1 (m.map intsRow) ∧ fr 5 = .int .i64 k ∧ res2 = decide (x.drop j = y.drop j)) (x.length) ⟨0, rfl, Nat.zero_le _, rfl, f0, f1, hik, by rw [List.drop_zero, List.drop_zero]; exact hres2.symm⟩ ?_
          rintro mm fr H ⟨j, rfl, hkj, hij, f0, f1, hik, hin⟩ K3 hK3
          refine awp_seq ?_
          refine awp_seq_k fun K hK => ?_; refine awp_region rfl ?_; simp only [RR, seval]
          simp only [hij, f0, hik, hg1,List.length_map, RR, seval]
          refine hK _ _ ?_; clear hK K
          refine awp_if _ rfl (fun hc => ?_) (fun hc => ?_)
          · have hltj : j < x.length := by have := of_decide_eq_true hc; omega
            clear hc
            refine awp_skip ?_; simp only [thenQ, blockQ]
            refine awp_seq ?_
            refine awp_block ?_
            have hltj2 : j < y.length := by omega
            have hn1 := getI (List.getElem?_eq_getElem hltj)
            have hn2 := getI (List.getElem?_eq_getElem hltj2)
            rw [List.drop_eq_getElem_cons hltj, List.drop_eq_getElem_cons hltj2] at hin
            generalize x[j] = c at hn1 hin
            generalize y[j] = d at hn2 hin
            have hin : res2 = (decide (c = d) && decide (x.drop (j + 1) = y.drop (j + 1))) := by
              rw [hin, Bool.eq_iff_iff]; simp only [decide_eq_true_eq, Bool.and_eq_true, List.cons.injEq]
            refine awp_seq_k fun K hK => ?_
            refine awp_region_draw (fun _ => True) [(0, true), (1, true), (2, true), (3, true), (4, true), (5, true), (6, true), (7, true), (8, true), (9, true), (10, true), (11, true), (12, true), (13, true), (14, true)] draws (by kernel_rfl) rfl ?_
            simp only [emit, markOf, f0, f1, hik, hij, hg1, hg2, hn1, hn2, awpL_entry, touch_ipt, List.length_map, RR, seval]
            refine hK _ _ ?_; clear hK K
            by_cases hcd : c = d
            · refine awp_if false (by simp [upd, ev, hcd]) (fun hc => by cases hc) (fun _ => ?_)
              rw [decide_eq_true hcd, Bool.true_and] at hin
              refine awp_skip ?_; simp only [thenQ, blockQ]
              refine awp_region rfl ?_; simp only [RR, seval]
              simp only [hij, thenQ, blockQ, RR, seval]
              rw [IntWalk.i64_in _ (by omega)]
              refine hK3 (x.length - (j + 1)) _ _ (by omega) ⟨j + 1, rfl, by omega, rfl, f0, f1, hik, hin⟩
            · refine awp_if true (by simp [upd, ev, hcd]) (fun _ => ?_) (fun hc => by cases hc)
              repeat' (first | (refine awp_seq_k fun K hK => ?_; refine awp_region rfl ?_; simp only [f0, RR, seval]; refine hK _ _ ?_; clear hK K) | (refine awp_seq ?_) | (refine awp_block ?_) | (refine awp_if true rfl (fun _ => ?_) (fun hc => by cases hc)) | (refine awp_if false rfl (fun hc => by cases hc) (fun _ => ?_)) | (refine awp_skip ?_; simp only [thenQ, blockQ]) | (refine awp_exit ?_; simp only [thenQ, blockQ, reduceIte, Nat.reduceEqDiff]) | (refine awp_region rfl ?_; simp only [f0, thenQ, blockQ, RR, seval]) | (refine awpG_splitN (fun h => ?_) (fun h => ?_) <;> simp only [h, f0, thenQ, blockQ, RR, seval]) | (refine awpG_split (fun h => ?_) (fun h => ?_) <;> simp only [h, f0, thenQ, blockQ, RR, seval]) | (refine awp_if _ rfl (fun h => ?_) (fun h => ?_)) | (refine awp_ret ?_; simp only [thenQ, blockQ, bodyQ, aresult, ares, argF, f0, RR, seval]; refine Gives.pure ?_))
              rw [hall, hin, decide_eq_false hcd]; rfl
          · refine awp_exit ?_; simp only [thenQ, blockQ, reduceIte, Nat.reduceEqDiff]
            have hknj : j = x.length := by have := of_decide_eq_false hc; omega
            clear hc
            subst hknj
            rw [List.drop_length, hxy, List.drop_length] at hin
            rw [hin, decide_eq_true rfl, Bool.true_and] at hall
            try simp only [thenQ, blockQ]
            refine awp_region rfl ?_; simp only [RR, seval]
            simp only [hik, thenQ, blockQ, RR, seval]
            rw [IntWalk.i64_in _ (by omega)]
            refine hK2 (l.length - (k + 1)) _ _ (by omega) ⟨k + 1, rfl, by omega, rfl, f0, f1, hall⟩
        · have e2 : ¬ (x.length : Int) = y.length := by omega
          have hne : ¬ x = y := fun e => hxy (by rw [e])
          refine awp_if true (by simp [upd, ev, e2]) (fun _ => ?_) (fun hc => by cases hc)
          repeat' (first | (refine awp_seq_k fun K hK => ?_; refine awp_region rfl ?_; simp only [f0, RR, seval]; refine hK _ _ ?_; clear hK K) | (refine awp_seq ?_) | (refine awp_block ?_) | (refine awp_if true rfl (fun _ => ?_) (fun hc => by cases hc)) | (refine awp_if false rfl (fun hc => by cases hc) (fun _ => ?_)) | (refine awp_skip ?_; simp only [thenQ, blockQ]) | (refine awp_exit ?_; simp only [thenQ, blockQ, reduceIte, Nat.reduceEqDiff]) | (refine awp_region rfl ?_; simp only [f0, thenQ, blockQ, RR, seval]) | (refine awpG_splitN (fun h => ?_) (fun h => ?_) <;> simp only [h, f0, thenQ, blockQ, RR, seval]) | (refine awpG_split (fun h => ?_) (fun h => ?_) <;> simp only [h, f0, thenQ, blockQ, RR, seval]) | (refine awp_if _ rfl (fun h => ?_) (fun h => ?_)) | (refine awp_ret ?_; simp only [thenQ, blockQ, bodyQ, aresult, ares, argF, f0, RR, seval]; refine Gives.pure ?_))
          rw [hall, decide_eq_false hne]; rfl
      · refine awp_exit ?_; simp only [thenQ, blockQ, reduceIte, Nat.reduceEqDiff]
        have hknk : k = l.length := by have := of_decide_eq_false hc; omega
        clear hc
        subst hknk
        rw [List.drop_length, hlm, List.drop_length] at hall
        exact hK _ _ (by rw [hall]; exact decide_eq_true rfl)
    · rintro fr H h0
      repeat' (first | (refine awp_seq_k fun K hK => ?_; refine awp_region rfl ?_; simp only [h0, RR, seval]; refine hK _ _ ?_; clear hK K) | (refine awp_seq ?_) | (refine awp_block ?_) | (refine awp_if true rfl (fun _ => ?_) (fun hc => by cases hc)) | (refine awp_if false rfl (fun hc => by cases hc) (fun _ => ?_)) | (refine awp_skip ?_; simp only [thenQ, blockQ]) | (refine awp_exit ?_; simp only [thenQ, blockQ, reduceIte, Nat.reduceEqDiff]) | (refine awp_region rfl ?_; simp only [h0, thenQ, blockQ, RR, seval]) | (refine awpG_splitN (fun h => ?_) (fun h => ?_) <;> simp only [h, h0, thenQ, blockQ, RR, seval]) | (refine awpG_split (fun h => ?_) (fun h => ?_) <;> simp only [h, h0, thenQ, blockQ, RR, seval]) | (refine awp_if _ rfl (fun h => ?_) (fun h => ?_)) | (refine awp_ret ?_; simp only [thenQ, blockQ, bodyQ, aresult, ares, argF, h0, RR, seval]; refine Gives.pure ?_))
      rfl
  · have e1 : ¬ (l.length : Int) = m.length := by omega
    have hne : ¬ l = m := fun e => hlm (by rw [e])
    refine awp_if true (by simp [upd, ev, e1]) (fun _ => ?_) (fun hc => by cases hc)
    repeat' (first | (refine awp_seq_k fun K hK => ?_; refine awp_region rfl ?_; simp only [e1, RR, seval]; refine hK _ _ ?_; clear hK K) | (refine awp_seq ?_) | (refine awp_block ?_) | (refine awp_if true rfl (fun _ => ?_) (fun hc => by cases hc)) | (refine awp_if false rfl (fun hc => by cases hc) (fun _ => ?_)) | (refine awp_skip ?_; simp only [thenQ, blockQ]) | (refine awp_exit ?_; simp only [thenQ, blockQ, reduceIte, Nat.reduceEqDiff]) | (refine awp_region rfl ?_; simp only [e1, thenQ, blockQ, RR, seval]) | (refine awpG_splitN (fun h => ?_) (fun h => ?_) <;> simp only [h, e1, thenQ, blockQ, RR, seval]) | (refine awpG_split (fun h => ?_) (fun h => ?_) <;> simp only [h, e1, thenQ, blockQ, RR, seval]) | (refine awp_if _ rfl (fun h => ?_) (fun h => ?_)) | (refine awp_ret ?_; simp only [thenQ, blockQ, bodyQ, aresult, ares, argF, e1, RR, seval]; refine Gives.pure ?_))
    rw [decide_eq_false hne]
end Go.Proofs.Ytnbokmbjiioooaa

namespace Go.Proofs.Ytnbokmbjiioooaa
open Go.Al
set_option maxHeartbeats 4000000 in
theorem rCalls_con (p : Pg) (hp : p.few) : PCon env 15 [p.av] (.isl 1 ((callsP p).map intsRow)) := by
  have hok := hp.ok
  have ga := hp.f
  have hfind := fun i hi s => Find_con p hp i hi s
  have hC : callsP p = callsFrom p 0 p.funs := rfl
  have htake := callsFrom_take p p.funs 0
  have hfl := callsFrom_len p
  have hnil : callsFrom p 0 [] = [] := rfl
  have hrow : ∀ i f, callsRow p i f = ((List.range p.funs.length).filter fun n => (usesS f.body).any (isCall p i n)).map fun (n : Nat) => (n : Int) := fun _ _ => rfl
  have hq : ∀ i n u, isCall p i n u = (decide (u.kind = 4) && decide ((findF p i u.name).1 = 4) && decide ((findF p i u.name).2 = n)) := fun _ _ _ => rfl
  have hcall := fun i s => findF_call p i s
  have hfs := hp.fs
  have hokf := hok.funs
  generalize isCall p = q at *
  generalize callsRow p = CR at *
  generalize callsFrom p = CF at *
  generalize findF p = FF at *
  generalize callsP p = res at *
  obtain ⟨vs, aa, fs⟩ := p
  simp only [Pg.av, Pg.row] at hfind ⊢
  simp only at ga hfs hokf htake hC hrow hcall
  refine con_of 79 [.tmp 2] Try.func15 rfl rfl rfl rfl ?_
  refine awp_cutK (fun fr H => ∃ b, fr 1 = .ptr 3 b 0 0 ∧ H b = some (.rows 3 [[.isl 1 (vs.map strRow), .isl 2 (aa.map Ar.row), .isl 5 (fs.map Fu.row)]])) (fun K hK => ?_) ?_
  · refine awp_region rfl ?_; simp only [RR, seval]
    refine awpN_intro fun b hb => ?_; simp only [RR, seval]
    exact hK _ _ ⟨b, rfl, upd_same _ _ _⟩
  rintro fr H ⟨b, f1, hb⟩
  refine awp_seq_k fun K hK => ?_; refine awp_region rfl ?_; simp only [RR, seval]
  refine hK _ _ ?_; clear hK K
  refine awp_cutK (fun fr H => OwnL 1 (fr 3) (res.map intsRow) H) (fun K hK => ?_) ?_
  · refine awp_seq_k fun K hK => ?_; refine awp_region rfl ?_; simp only [RR, seval]
    refine hK _ _ ?_; clear hK K
    refine awp_block ?_
    refine awp_loopK (fun mm fr H => ∃ k : Nat, mm = fs.length - k ∧ k ≤ fs.length ∧ fr 4 = .int .i64 k ∧ fr 1 = .ptr 3 b 0 0 ∧ H b = some (.rows 3 [[.isl 1 (vs.map strRow), .isl 2 (aa.map Ar.row), .isl 5 (fs.map Fu.row)]]) ∧ OwnL 1 (fr 3) ((CF 0 (fs.take k)).map intsRow) H) (fs.length) ⟨0, rfl, Nat.zero_le _, rfl, f1, hb, .inl ⟨rfl, by rw [List.take_zero, hnil]; rfl⟩⟩ ?_
    rintro mm fr H ⟨k, rfl, hkk, hik, f1, hb, hout⟩ K2 hK2
    refine awp_seq ?_
    refine awp_seq_k fun K hK => ?_; refine awp_region rfl ?_; simp only [RR, seval]
    simp only [hik, f1, hb,List.length_map, RR, seval]
    refine hK _ _ ?_; clear hK K
    refine awp_if _ rfl (fun hc => ?_) (fun hc => ?_)
    · have hltk : k < fs.length := by have := of_decide_eq_true hc; omega
      clear hc
      refine awp_skip ?_; simp only [thenQ, blockQ]
      refine awp_seq ?_
      refine awp_block ?_
      have hg0 := List.getElem?_eq_getElem hltk
      have hg := getF hg0
      have hfsk := hfs _ (List.getElem_mem hltk)
      have hokk := hokf _ (List.getElem_mem hltk)
      have htk := htake k hltk
      rw [Nat.zero_add] at htk
      have hrk := hrow k fs[k]
      generalize fs[k] = g at hg hfsk hokk htk hrk
      have hus := Uses_con _ g.body rfl (by omega) hokk.body
      have hul := usesS_len _ g.body rfl
      have m1 : (0 : Int) ≤ (fs.length : Int) := by omega
      have m2 : (1 : Int) * (fs.length : Int) ≤ 281474976710656 := by omega
      have m3 : (fs.length : Int) ≤ 281474976710656 := by omega
      refine awp_seq_k fun K hK => ?_; refine awp_region rfl ?_; simp only [RR, seval]
      simp only [f1, hb, List.length_map, Al.newObj, m1, m2, m3, Int.one_mul, Int.natCast_one, Int.cast_ofNat_Int, RR, seval]
      refine awpN_intro fun bt hbt => ?_
      simp only [RR, seval]
      refine hK _ _ ?_; clear hK K
      have hne : b ≠ bt := fun e => by rw [e, hbt] at hb; cases hb
      have hth : OwnO 1 (.osl 1 bt fs.length) ((thereL fs.length (q k) []).map boolRow) (upd H bt (some (.rows 1 (List.replicate fs.length [.bool false])))) := by
        refine ⟨bt, by simp [thereL], ?_⟩
        rw [upd_same, thereL_nil, List.map_replicate]; rfl
      have hb2 : (upd H bt (some (.rows 1 (List.replicate fs.length [.bool false])))) b = some (.rows 3 [[.isl 1 (vs.map strRow), .isl 2 (aa.map Ar.row), .isl 5 (fs.map Fu.row)]]) := by simp only [upd, if_neg hne]; exact hb
      have hap : apart (fr 3) (.osl 1 bt fs.length) := fun b' s n s' n' e1 e2 => by
        have := hout.there s b' n e1
        cases e2
        exact this hbt
      have hout2 := hout.upd hbt (some (.rows 1 (List.replicate fs.length [.bool false])))
      generalize (upd H bt (some (.rows 1 (List.replicate fs.length [.bool false])))) = H1 at hth hb2 hout2 ⊢
      refine awp_seq_k fun K hK => ?_; refine awp_region rfl ?_; simp only [RR, seval]
      simp only [f1, hb2, hik, hg, RR, seval]
      refine awpC_pure' hus ?_; simp only [RR, seval]
      refine hK _ _ ?_; clear hK K
      generalize usesS g.body = us at hrk hul
      refine awp_cutK (fun fr H => fr 1 = .ptr 3 b 0 0 ∧ H b = some (.rows 3 [[.isl 1 (vs.map strRow), .isl 2 (aa.map Ar.row), .isl 5 (fs.map Fu.row)]]) ∧ OwnL 1 (fr 3) ((CF 0 (fs.take k)).map intsRow) H ∧ fr 4 = .int .i64 k ∧ fr 5 = .osl 1 bt fs.length ∧ H bt = some (.rows 1 ((thereL fs.length (q k) us).map boolRow)) ∧ apart (fr 3) (.osl 1 bt fs.length)) (fun K hK => ?_) ?_
      · refine awp_seq_k fun K hK => ?_; refine awp_region rfl ?_; simp only [RR, seval]
        refine hK _ _ ?_; clear hK K
        have hHt : H1 bt = some (.rows 1 ((thereL fs.length (q k) []).map boolRow)) := by
          obtain ⟨b', e1, e2⟩ := hth
          simp only [AV.osl.injEq] at e1
          rw [e1.2.1]
          exact e2
        refine awp_block ?_
        refine awp_loopK (fun mm fr H => ∃ j : Nat, mm = us.length - j ∧ j ≤ us.length ∧ fr 7 = .int .i64 j ∧ fr 1 = .ptr 3 b 0 0 ∧ H b = some (.rows 3 [[.isl 1 (vs.map strRow), .isl 2 (aa.map Ar.row), .isl 5 (fs.map Fu.row)]]) ∧ OwnL 1 (fr 3) ((CF 0 (fs.take k)).map intsRow) H ∧ fr 4 = .int .i64 k ∧ fr 5 = .osl 1 bt fs.length ∧ H bt = some (.rows 1 ((thereL fs.length (q k) (us.take j)).map boolRow)) ∧ fr 6 = .isl 3 (us.map Us.row) ∧ apart (fr 3) (.osl 1 bt fs.length)) (us.length) ⟨0, rfl, Nat.zero_le _, rfl, f1, hb2, hout2, hik, rfl, hHt, rfl, hap⟩ ?_
        rintro mm fr H ⟨j, rfl, hkj, hij, f1, hb, hout, hik, f5, hHt, f6, hap⟩ K3 hK3
        refine awp_seq ?_
        refine awp_seq_k fun K hK => ?_; refine awp_region rfl ?_; simp only [RR, seval]
        simp only [hij, f6,List.length_map, RR, seval]
        refine hK _ _ ?_; clear hK K
        refine awp_if _ rfl (fun hc => ?_) (fun hc => ?_)
        · have hltj : j < us.length := by have := of_decide_eq_true hc; omega
          clear hc
          refine awp_skip ?_; simp only [thenQ, blockQ]
          refine awp_seq ?_
          refine awp_block ?_
          have hgu := getU (List.getElem?_eq_getElem hltj)
          have htj : us.take (j + 1) = us.take j ++ [us[j]] := List.take_succ_eq_append_getElem hltj
          generalize us[j] = u at hgu htj
          have hfn := hfind k hltk u.name
          have hqk := fun n => hq k n u
          have hck := hcall k u.name
          generalize FF k u.name = r at hfn hqk hck
          refine awp_seq_k fun K hK => ?_
          refine awp_region_draw (fun x => x ≠ b) [(0, true), (1, true), (2, true), (3, true), (4, true), (5, true), (6, true), (7, true), (8, true), (9, true), (10, true), (11, true), (12, true)] draws (by kernel_rfl) rfl ?_
          simp only [emit, markOf, f1, hb, hik, hij, f6, hgu, awpL_entry, touch_ptr, touch_ipt, RR, seval]
          refine awpC_pure' hfn ?_
          simp only [f1, hb, hik, hij, f6, hgu, awpL_entry, touch_ptr, touch_ipt, RR, seval]
          refine hK _ _ ?_; clear hK K
          by_cases hcl : u.kind = 4 ∧ r.1 = 4
          · obtain ⟨k4, r4⟩ := hcl
            have e1 : decide (u.kind = 4) = true := decide_eq_true k4
            have e2 : decide (r.1 = 4) = true := decide_eq_true r4
            obtain ⟨c1, c2⟩ := hck r4
            obtain ⟨n, hn⟩ := Int.eq_ofNat_of_zero_le c1
            have hnl : n < fs.length := by omega
            have hset := thereL_set fs.length (q k) (us.take j) u n hnl (fun m hm => by
              rw [hqk, e1, e2, hn, Bool.true_and, Bool.true_and, Bool.eq_iff_iff]
              simp only [decide_eq_true_eq]; omega)
            have hi1 : (n : Int) < (fs.length : Int) := by omega
            have hgt : ((thereL fs.length (q k) (us.take j)).map boolRow)[n]? = some (boolRow (thereL fs.length (q k) (us.take j))[n]!) := by
              have hl : n < (thereL fs.length (q k) (us.take j)).length := by simp only [thereL, List.length_map, List.length_range]; exact hnl
              rw [getElem!_pos _ n hl]
              exact getRow _ (List.getElem?_eq_getElem hl)
            refine awp_seq_k fun K hK => ?_; refine awp_region rfl ?_; simp only [RR, seval]
            simp only [hij, f6, hgu, e1, e2, RR, seval]
            refine hK _ _ ?_; clear hK K
            refine awp_if true rfl (fun _ => ?_) (fun hc => by cases hc)
            refine awp_region rfl ?_
            simp only [f5, hn, hi1, hHt, hgt, boolRow, thenQ, blockQ, RR, seval]
            refine awp_region rfl ?_; simp only [RR, seval]
            simp only [hij, thenQ, blockQ, RR, seval]
            rw [IntWalk.i64_in _ (by omega)]
            refine hK3 (us.length - (j + 1)) _ _ (by omega) ⟨j + 1, rfl, by omega, rfl, f1, by simp only [upd, if_neg hne]; exact hb, ?_, hik, f5, ?_, f6, hap⟩
            · exact hout.keep (w := .osl 1 bt fs.length) (sz' := 1) (r2 := List.replicate fs.length []) hap.symm (fun b' o h1 h2 => by
                have : b' ≠ bt := fun e => h2 (by rw [e, List.length_replicate])
                simp only [upd, if_neg this]; exact h1)
            · rw [htj, hset, upd_same, List.map_set]; rfl
          · have hnone := thereL_none fs.length (q k) (us.take j) u (fun m hm => by
              rw [hqk]
              by_cases k4 : u.kind = 4
              · have r4 : ¬ r.1 = 4 := fun h => hcl ⟨k4, h⟩
                simp [r4]
              · simp [k4])
            by_cases k4 : u.kind = 4
            · have r4 : ¬ r.1 = 4 := fun h => hcl ⟨k4, h⟩
              have e1 : decide (u.kind = 4) = true := decide_eq_true k4
              have e2 : decide (r.1 = 4) = false := decide_eq_false r4
              refine awp_seq_k fun K hK => ?_; refine awp_region rfl ?_; simp only [RR, seval]
              simp only [hij, f6, hgu, e1, e2, RR, seval]
              refine hK _ _ ?_; clear hK K
              refine awp_if false rfl (fun hc => by cases hc) (fun _ => ?_)
              refine awp_skip ?_; simp only [thenQ, blockQ]
              refine awp_region rfl ?_; simp only [RR, seval]
              simp only [hij, thenQ, blockQ, RR, seval]
              rw [IntWalk.i64_in _ (by omega)]
              refine hK3 (us.length - (j + 1)) _ _ (by omega) ⟨j + 1, rfl, by omega, rfl, f1, hb, hout, hik, f5, by rw [htj, hnone]; exact hHt, f6, hap⟩
            · have e1 : decide (u.kind = 4) = false := decide_eq_false k4
              refine awp_seq_k fun K hK => ?_; refine awp_region rfl ?_; simp only [RR, seval]
              simp only [hij, f6, hgu, e1, RR, seval]
              refine hK _ _ ?_; clear hK K
              refine awp_if false rfl (fun hc => by cases hc) (fun _ => ?_)
              refine awp_skip ?_; simp only [thenQ, blockQ]
              refine awp_region rfl ?_; simp only [RR, seval]
              simp only [hij, thenQ, blockQ, RR, seval]
              rw [IntWalk.i64_in _ (by omega)]
              refine hK3 (us.length - (j + 1)) _ _ (by omega) ⟨j + 1, rfl, by omega, rfl, f1, hb, hout, hik, f5, by rw [htj, hnone]; exact hHt, f6, hap⟩
        · refine awp_exit ?_; simp only [thenQ, blockQ, reduceIte, Nat.reduceEqDiff]
          have hknj : j = us.length := by have := of_decide_eq_false hc; omega
          clear hc
          subst hknj
          rw [List.take_length] at hHt
          exact hK _ _ ⟨f1, hb, hout, hik, f5, hHt, hap⟩
      rintro fr H ⟨f1, hb, hout, hik, f5, hHt, hap⟩
      refine awp_seq_k fun K hK => ?_; refine awp_region rfl ?_; simp only [RR, seval]
      refine hK _ _ ?_; clear hK K
      have hgetT : ∀ j, j < fs.length → ((thereL fs.length (q k) us).map boolRow)[j]? = some [.bool (us.any (q k j))] := fun j hj => by
        have hl : j < (thereL fs.length (q k) us).length := by simp only [thereL, List.length_map, List.length_range]; exact hj
        rw [getRow _ (List.getElem?_eq_getElem hl)]
        simp [boolRow, thereL]
      refine awp_cutK (fun fr H => fr 1 = .ptr 3 b 0 0 ∧ H b = some (.rows 3 [[.isl 1 (vs.map strRow), .isl 2 (aa.map Ar.row), .isl 5 (fs.map Fu.row)]]) ∧ OwnL 1 (fr 3) ((CF 0 (fs.take k)).map intsRow) H ∧ fr 4 = .int .i64 k ∧ OwnL 1 (fr 10) ((CR k g).map intRow) H ∧ apart (fr 10) (fr 3) ∧ (CR k g).length ≤ fs.length) (fun K hK => ?_) ?_
      · refine awp_seq_k fun K hK => ?_; refine awp_region rfl ?_; simp only [RR, seval]
        refine hK _ _ ?_; clear hK K
        refine awp_block ?_
        refine awp_loopK (fun mm fr H => ∃ j : Nat, mm = fs.length - j ∧ j ≤ fs.length ∧ fr 11 = .int .i64 j ∧ fr 1 = .ptr 3 b 0 0 ∧ H b = some (.rows 3 [[.isl 1 (vs.map strRow), .isl 2 (aa.map Ar.row), .isl 5 (fs.map Fu.row)]]) ∧ OwnL 1 (fr 3) ((CF 0 (fs.take k)).map intsRow) H ∧ fr 4 = .int .i64 k ∧ fr 5 = .osl 1 bt fs.length ∧ H bt = some (.rows 1 ((thereL fs.length (q k) us).map boolRow)) ∧ OwnL 1 (fr 10) ((((List.range j).filter fun n => us.any (q k n)).map fun (n : Nat) => (n : Int)).map intRow) H ∧ apart (fr 10) (fr 3) ∧ apart (fr 10) (.osl 1 bt fs.length)) (fs.length) ⟨0, rfl, Nat.zero_le _, rfl, f1, hb, hout, hik, f5, hHt, .inl ⟨rfl, by simp⟩, apart.nsl _, apart.nsl _⟩ ?_
        rintro mm fr H ⟨j, rfl, hkj, hij, f1, hb, hout, hik, f5, hHt, hrw, ha3, hat⟩ K3 hK3
        refine awp_seq ?_
        refine awp_seq_k fun K hK => ?_; refine awp_region rfl ?_; simp only [RR, seval]
        simp only [hij, f5, hHt,List.length_map, RR, seval]
        refine hK _ _ ?_; clear hK K
        refine awp_if _ rfl (fun hc => ?_) (fun hc => ?_)
        · have hltj : j < fs.length := by have := of_decide_eq_true hc; omega
          clear hc
          refine awp_skip ?_; simp only [thenQ, blockQ]
          refine awp_seq ?_
          refine awp_block ?_
          have hgj := hgetT j hltj
          have hi1 : (j : Int) < (fs.length : Int) := by omega
          have hrl : ((List.range j).filter fun n => us.any (q k n)).length ≤ j := by
            have := List.length_filter_le (fun n => us.any (q k n)) (List.range j)
            rwa [List.length_range] at this
          refine awp_seq_k fun K hK => ?_; refine awp_region rfl ?_; simp only [RR, seval]
          simp only [f5, hij, hHt, hgj, hi1, RR, seval]
          refine hK _ _ ?_; clear hK K
          cases hany : us.any (q k j) with
          | false =>
            refine awp_if false (by simp [upd, ev, hany]) (fun hc => by cases hc) (fun _ => ?_)
            refine awp_skip ?_; simp only [thenQ, blockQ]
            refine awp_region rfl ?_; simp only [RR, seval]
            simp only [hij, thenQ, blockQ, RR, seval]
            rw [IntWalk.i64_in _ (by omega)]
            refine hK3 (fs.length - (j + 1)) _ _ (by omega) ⟨j + 1, rfl, by omega, rfl, f1, hb, hout, hik, f5, hHt, by rw [List.range_succ, List.filter_append, List.filter_cons, hany]; simpa [upd] using hrw, ha3, hat⟩
          | true =>
            refine awp_if true (by simp [upd, ev, hany]) (fun _ => ?_) (fun hc => by cases hc)
            refine awp_region rfl ?_
            simp only [hij, RR, seval]
            refine awpB_sealed ?_
            simp only [RR, seval]
            refine awpA_grow hrw (by simp only [List.length_map, List.length_cons, List.length_nil]; omega) (fun _ => trivial) fun v' H' hv' hk' ha' => ?_
            simp only [thenQ, blockQ, RR, seval]
            have hHt' := hk' bt _ hHt (fun e => hat bt _ _ 1 fs.length e rfl)
            have hb' := hk' b _ hb (fun e => by
              rcases hrw with ⟨e1, _⟩ | ⟨b', e1, e2⟩
              · rw [e1] at e; cases e
              · rw [e1] at e; cases e; rw [hb] at e2; cases e2)
            have hout' := hout.keep ha3 hk'
            refine awp_region rfl ?_; simp only [RR, seval]
            simp only [hij, thenQ, blockQ, RR, seval]
            rw [IntWalk.i64_in _ (by omega)]
            refine hK3 (fs.length - (j + 1)) _ _ (by omega) ⟨j + 1, rfl, by omega, rfl, f1, hb', hout', hik, f5, hHt', by rw [List.range_succ, List.filter_append, List.filter_cons, hany, List.map_append, List.map_append]; exact hv', ha' _ ha3 (fun s b n e => hout.there s b n e), ha' _ hat (fun s b n e => by cases e; rw [hHt]; simp)⟩
        · refine awp_exit ?_; simp only [thenQ, blockQ, reduceIte, Nat.reduceEqDiff]
          have hknj : j = fs.length := by have := of_decide_eq_false hc; omega
          clear hc
          subst hknj
          rw [← hrk] at hrw
          have hrl : (CR k g).length ≤ fs.length := by
            rw [hrk, List.length_map]
            have := List.length_filter_le (fun n => us.any (q k n)) (List.range fs.length)
            rwa [List.length_range] at this
          exact hK _ _ ⟨f1, hb, hout, hik, hrw, ha3, hrl⟩
      rintro fr H ⟨f1, hb, hout, hik, hrw, ha3, hrl⟩
      refine awp_seal2 (i := 10) hrw fun fr' H' g10 gfr gH => ?_
      have g1 := gfr 1 (by decide) (by rw [f1]; exact apart_ptr _ _ _ _ _)
      have g4 := gfr 4 (by decide) (by rw [hik]; exact apart_int _ _ _)
      have g3 := gfr 3 (by decide) ha3
      rw [f1] at g1
      rw [hik] at g4
      have hb' := gH b _ hb (fun e => by
        rcases hrw with ⟨e1, _⟩ | ⟨b', e1, e2⟩
        · rw [e1] at e; cases e
        · rw [e1] at e; cases e; rw [hb] at e2; cases e2)
      have hout' := hout.keep ha3 gH
      rw [← g3] at hout'
      refine awp_region rfl ?_
      simp only [g10, RR, seval]
      refine awpB_sealed ?_
      simp only [RR, seval]
      refine awpA_grow hout' (by simp only [List.length_map, List.length_cons, List.length_nil, hfl, List.length_take]; omega) (fun _ => trivial) fun v' H2 hv' hk' _ => ?_
      simp only [thenQ, blockQ, RR, seval]
      have hb2 := hk' b _ hb' (fun e => by
        rcases hout' with ⟨e1, _⟩ | ⟨b', e1, e2⟩
        · rw [e1] at e; cases e
        · rw [e1] at e; cases e; rw [hb'] at e2; cases e2)
      have hik := g4
      refine awp_region rfl ?_; simp only [RR, seval]
      simp only [hik, thenQ, blockQ, RR, seval]
      rw [IntWalk.i64_in _ (by omega)]
      refine hK2 (fs.length - (k + 1)) _ _ (by omega) ⟨k + 1, rfl, by omega, rfl, g1, hb2, by rw [htk, List.map_append]; exact hv'⟩
    · refine awp_exit ?_; simp only [thenQ, blockQ, reduceIte, Nat.reduceEqDiff]
      have hknk : k = fs.length := by have := of_decide_eq_false hc; omega
      clear hc
      subst hknk
      rw [List.take_length, ← hC] at hout
      exact hK _ _ hout
  rintro fr H hown
  refine awp_seq_k fun K hK => ?_; refine awp_region rfl ?_; simp only [RR, seval]
  refine hK _ _ ?_; clear hK K
  refine awp_ret ?_
  simp only [thenQ, blockQ, bodyQ, aresult, ares, argF, RR, seval]
  exact hown.gives1 rfl
end Go.Proofs.Ytnbokmbjiioooaa
